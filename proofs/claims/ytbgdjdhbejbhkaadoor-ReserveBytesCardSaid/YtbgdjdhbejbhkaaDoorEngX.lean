/-
The walk engine: more on arrays, panics, drawn regions.
-/
import Derived.Test.YtbgdjdhbejbhkaaDoorEngW
set_option linter.unusedVariables false
set_option linter.unusedSimpArgs false
namespace Go.Eng
instance (priority := 850) {E L0 L' L1 : Own} [h : SelE L' E L1] [k : Keeps L0 L'] : Keeps (E ++ L0) L' := ⟨fun p hp => by
  rcases List.mem_append.1 hp with hp | hp
  · exact h.perm.mem_iff.2 (List.mem_append_left _ hp)
  · exact k.mem p hp⟩
theorem y_buildArr {P : Program} {ty : TypeId} {F : Fr} {M : Mem} {L : Own} {t e : TypeId} {m : Nat} {parts : List (Nat × Operand)} {z cells : List Value} {z' : Value} {s b0 s' b' : Nat} {de : TypeDesc} [ti : TI P t (.array m e) (.agg z.toArray) s b0] [te : TI P e de z' s' b'] {vs : List (Nat × Value)} (hp : evps F parts = some vs)
    [hf : FillTo (fun i => some (i * s', s')) z vs cells] :
    Yld P (.build t parts.toArray) ty F M L (.agg cells.toArray) := fun w ρ hs hρ => by
  obtain ⟨j, hj, hz, _, _⟩ := ti.parts
  obtain ⟨j', hj', _, hjs, _⟩ := te.parts
  subst hjs
  have h1 : (zeroValue t).run P w = .ok (.agg z.toArray) w := by simp [zeroValue, typeInfo, hj, hz]
  have h2 := evps_map hρ _ _ hp
  have hf := hf.fill
  simp only [execOp, Instr.build, Sem.run_bind, h1, Result.andThen_ok, run_underlying ti.und, Sem.run_pure, List.map_toArray, h2, Value.cells, run_size hj', hf]
theorem copy_whole {c cs : List Value} (h : c.length = cs.length) : c.take 0 ++ (cs ++ c.drop (0 + cs.length)) = cs := by
  rw [List.take_zero, List.nil_append, Nat.zero_add, List.drop_of_length_le (by omega), List.append_nil]
theorem CellsN.whole {M : Mem} {L : Own} {b n : Nat} {c : List Value} {T : TypeId} {fr : Nat × Nat} (hh : Has L b (.cells c.toArray T fr)) (hl : c.length = n) : CellsN M L ⟨b, 0, none⟩ n c :=
  ⟨fun w hw j v hj => by rw [add_plain, Nat.zero_add]; exact cell_of (hw.own _ hh.mem) (by simpa using hj), hl⟩
theorem CellsN.wholeRo {M : Mem} {L : Own} {b n : Nat} {c : List Value} {T : TypeId} {fr : Nat × Nat} (hM : M b = some (.cells c.toArray T fr)) (hl : c.length = n) : CellsN M L ⟨b, 0, none⟩ n c :=
  ⟨fun w hw j v hj => by rw [add_plain, Nat.zero_add]; exact cell_of (hw.ro _ _ hM) (by simpa using hj), hl⟩
theorem PutAt.whole {c cs : List Value} (h : c.length = cs.length) : PutAt c 0 cs cs := ⟨by rw [List.take_zero, List.nil_append, Nat.zero_add, List.drop_of_length_le (by omega), List.append_nil], by omega⟩
theorem ofInt32 (n : Nat) : UInt32.ofInt (n : Int) = UInt32.ofNat n := by
  apply UInt32.toNat_inj.1
  show (UInt32.ofNat ((n : Int) % 4294967296).toNat).toNat = _
  rw [UInt32.toNat_ofNat', UInt32.toNat_ofNat']
  omega
theorem ofInt64 (n : Nat) : UInt64.ofInt (n : Int) = UInt64.ofNat n := by
  apply UInt64.toNat_inj.1
  show (UInt64.ofNat ((n : Int) % 18446744073709551616).toNat).toNat = _
  rw [UInt64.toNat_ofNat', UInt64.toNat_ofNat']
  omega
theorem get_u32 (w : List UInt32) (rest : List Value) (i : Nat) (h : i < w.length) : (w.map u32v ++ rest)[i]? = some (u32v (w.getD i 0)) := by
  rw [List.getElem?_append_left (by simpa using h), List.getElem?_map, List.getD_eq_getElem?_getD, List.getElem?_eq_getElem h]
  rfl
theorem set_u32 (w : List UInt32) (m : Nat) (v : UInt32) (h : w.length < m) : (w.map u32v ++ List.replicate (m - w.length) (u32v 0)).set w.length (u32v v) = (w ++ [v]).map u32v ++ List.replicate (m - (w.length + 1)) (u32v 0) := by
  obtain ⟨d, rfl⟩ : ∃ d, m = w.length + 1 + d := ⟨m - (w.length + 1), by omega⟩
  rw [show w.length + 1 + d - w.length = d + 1 by omega, show w.length + 1 + d - (w.length + 1) = d by omega, List.replicate_succ, List.set_append_right _ _ (by simp)]
  simp
theorem get_u32' (w : List UInt32) (i : Nat) (h : i < w.length) : (w.map u32v)[i]? = some (u32v (w.getD i 0)) := by
  have := get_u32 w [] i h
  rwa [List.append_nil] at this
theorem u32_one (w : List UInt32) : (w.map u32v).all one = true := by simp [one, Value.oneCell']
section
variable {P : Program} {n : Nat} {Q : Post} {F : Fr} {D : List Deferred} {G : World} {M M0 : Mem} {L L0 : Own} {ops : Array Oper} {τ f : Nat} {X : Array Bool}
/-- Several operations may come up. -/
theorem to_many (l : List Nat) (hr : Region.ready .any ops X = l) (h : ∀ i ∈ l, wpTwo P n ops τ M0 L0 f X Q F D G M L i) (h0 : l ≠ []) : TO P n ops τ M0 L0 (f + 1) X Q F D G M L := fun hok hkp w a hw ha hcl hs => by
  refine ⟨fun h1 => absurd (hr.symm.trans h1) h0, fun k hk => ?_⟩
  have hk' := hk
  rw [hr] at hk'
  exact h k hk' hok hkp w a hw ha hcl hs hk
theorem to_three (i j k : Nat) (hr : Region.ready .any ops X = [i, j, k]) (h1 : wpTwo P n ops τ M0 L0 f X Q F D G M L i) (h2 : wpTwo P n ops τ M0 L0 f X Q F D G M L j) (h3 : wpTwo P n ops τ M0 L0 f X Q F D G M L k) : TO P n ops τ M0 L0 (f + 1) X Q F D G M L :=
  to_many [i, j, k] hr (fun x hx => by
    simp only [List.mem_cons, List.not_mem_nil, or_false] at hx
    rcases hx with rfl | rfl | rfl
    · exact h1
    · exact h2
    · exact h3) (by simp)
theorem to_four (i j k m : Nat) (hr : Region.ready .any ops X = [i, j, k, m]) (h1 : wpTwo P n ops τ M0 L0 f X Q F D G M L i) (h2 : wpTwo P n ops τ M0 L0 f X Q F D G M L j) (h3 : wpTwo P n ops τ M0 L0 f X Q F D G M L k) (h4 : wpTwo P n ops τ M0 L0 f X Q F D G M L m) : TO P n ops τ M0 L0 (f + 1) X Q F D G M L :=
  to_many [i, j, k, m] hr (fun x hx => by
    simp only [List.mem_cons, List.not_mem_nil, or_false] at hx
    rcases hx with rfl | rfl | rfl | rfl
    · exact h1
    · exact h2
    · exact h3
    · exact h4) (by simp)
/-- A conversion of a new row to its own type, which marks it: it is only read from then on. -/
theorem e_convMark {t e : TypeId} {x : Operand} {z z2 : Value} {s b0 s2 b2 : Nat} {d : Option Tmp} {ty : TypeId} {K : Fr → List Deferred → Mem → Own → Prop} [ti : TI P t (.slice e) z s b0] [te : TI P e (.int .u8) z2 s2 b2] {b nn c : Nat} {cs : Array Value} {T : TypeId} {L' : Own}
    (hx : ev F x = some (.slice (some ⟨b, 0, none⟩) nn c)) (hs : Sel L b (.cells cs T (0, 0)) L') (h : ∀ M' fr, Le M M' → M' b = some (.cells cs T fr) → K (putF d (.slice (some ⟨b, 0, none⟩) nn c) F) D M' L') :
    Tr P n d (.convert t t x) ty Q F D G M L K := tr_value (fun c h => by cases h) fun w ρ hw hρ => by
  have hw1 := hw.perm hs.perm
  have hb := (hw1.own _ List.mem_cons_self).1
  have hst : St G M ((b, Obj.cells cs T (cs.size, cs.size + 1)) :: L') (w.freeze ⟨b, cs.size, none⟩ 1) := by
    refine hw1.set rfl rfl rfl ?_ (fun i hi => ?_)
    · show (w.heap.modify b _)[b]? = _
      rw [Array.getElem?_modify, if_pos rfl, hb]
      rfl
    · show (w.heap.modify b _)[i]? = _
      rw [Array.getElem?_modify, if_neg (Ne.symm hi)]
  obtain ⟨k1, k2, k3⟩ := hst.publish
  have hsh : w.shape? b = some (T, cs.size) := by simp [World.shape?, hb]
  refine ⟨.slice (some ⟨b, 0, none⟩) nn c, w.freeze ⟨b, cs.size, none⟩ 1, _, L', ?_, k1, h _ _ k2 k3⟩
  have hr : (convert t t (.slice (some ⟨b, 0, none⟩) nn c)).run P w = .ok (.slice (some ⟨b, 0, none⟩) nn c) (w.freeze ⟨b, cs.size, none⟩ 1) := by
    simp [convert, run_underlying ti.und, run_underlying te.und, markStringish, hsh]
  simp only [execOp, hρ _ _ hx, Sem.run_bind, hr, Result.andThen_ok, Sem.run_pure]
/-- What a call leaves, or leaves by, with entries let go and in another order. -/
theorem Con.postP {fid : FuncId} {args : Array Value} {K K' : Value → Mem → Own → Prop} {Kp Kp' : List PanicEntry → Mem → Own → Prop} (h : Con P fid args G M L K Kp)
    (hk : ∀ v M' L1, Le M M' → K v M' L1 → ∃ L2, DropTo L1 L2 ∧ K' v M' L2) (hkp : ∀ c M' L1, Le M M' → Kp c M' L1 → ∃ L2, DropTo L1 L2 ∧ Kp' c M' L2) : Con P fid args G M L K' Kp' :=
  ⟨h.enter, fun w hw => (h.calls w hw).mono fun e w' he => by
    cases e with
    | returned v => obtain ⟨M', L1, a, b, c⟩ := he; obtain ⟨L2, d, e⟩ := hk v M' L1 a c; exact ⟨M', L2, a, b.dropTo, e⟩
    | panicked v => obtain ⟨M', L1, a, b, c⟩ := he; obtain ⟨L2, d, e⟩ := hkp v M' L1 a c; exact ⟨M', L2, a, b.dropTo, e⟩
    | outgrown => exact he⟩
theorem TP.retA {ch : List PanicEntry} {Kp : List PanicEntry → Mem → Own → Prop} (e : Q.pn = fun c a w => a.defers = [] ∧ ∃ M' L', Le M0 M' ∧ St G M' L' w ∧ Kp c M' L') (hle : Le M0 M) (h : Kp ch M L) : TP n Q ch F [] G M L := fun w a hw ha => by
  rw [e]; exact ⟨ha.defers, M, L, hle, hw, h⟩
theorem TP.dropTo {c : List PanicEntry} (T' : Own) (hd : DropTo L T') (h : TP n Q c F D G M T') : TP n Q c F D G M L := fun w a hw ha => h w a hw.dropTo ha
/-- Ways through a drawn region that come together behind it. -/
theorem x_meet {a b : Code} (I : Fr → List Deferred → Mem → Own → Prop)
    (hb : ∀ F' D' M' L', I F' D' M' L' → T P n b Q F' D' G M' L') (ha : (∀ F' D' M' L', I F' D' M' L' → T P n b Q F' D' G M' L') → T P n a (thenQ P n b Q) F D G M L) : T P n a (thenQ P n b Q) F D G M L := ha hb
end
end Go.Eng
