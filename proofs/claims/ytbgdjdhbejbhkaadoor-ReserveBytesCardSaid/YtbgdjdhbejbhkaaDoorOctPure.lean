/-
Contracts of functions, each proved by a walk through its code.
-/
import Derived.Test.YtbgdjdhbejbhkaaDoorEngW
set_option linter.unusedVariables false
set_option linter.unusedSimpArgs false
namespace Go.Eng
/-! ### Numbers as bytes -/
def putB (v : Nat) : Nat → List UInt8
  | 0 => []
  | n + 1 => putB (v / 256) n ++ [UInt8.ofNat (v % 256)]
theorem putB_length : ∀ (n v : Nat), (putB v n).length = n
  | 0, _ => rfl
  | n + 1, v => by simp [putB, putB_length n]
theorem putB_get : ∀ (n v i : Nat), i < n → (putB v n)[n - 1 - i]? = some (UInt8.ofNat (v / 256 ^ i % 256))
  | 0, _, _, h => by omega
  | n + 1, v, 0, _ => by
    have hl := putB_length n (v / 256)
    rw [putB, Nat.add_sub_cancel, Nat.sub_zero, List.getElem?_append_right (by omega), hl, Nat.sub_self]
    simp
  | n + 1, v, i + 1, h => by
    have hl := putB_length n (v / 256)
    rw [putB, show n + 1 - 1 - (i + 1) = n - 1 - i by omega, List.getElem?_append_left (by omega), putB_get n (v / 256) i (by omega), Nat.pow_succ, Nat.div_div_eq_div_mul, Nat.mul_comm 256]
def getB (bs : List UInt8) : Nat := bs.foldl (fun v b => v * 256 + b.toNat) 0
theorem getB_snoc (bs : List UInt8) (b : UInt8) : getB (bs ++ [b]) = getB bs * 256 + b.toNat := by simp [getB]
theorem snoc_ind {α : Type} {p : List α → Prop} (h0 : p []) (h1 : ∀ l a, p l → p (l ++ [a])) (l : List α) : p l := by
  rw [← List.reverse_reverse l]
  generalize l.reverse = r
  induction r with
  | nil => exact h0
  | cons a r ih => rw [List.reverse_cons]; exact h1 _ _ ih
theorem getB_lt (bs : List UInt8) : getB bs < 256 ^ bs.length := by
  refine snoc_ind (p := fun bs => getB bs < 256 ^ bs.length) (by simp [getB]) (fun l a ih => ?_) bs
  have := a.toNat_lt
  rw [getB_snoc, List.length_append, List.length_singleton, Nat.pow_succ]
  omega
theorem getB_put : ∀ (n v : Nat), getB (putB v n) = v % 256 ^ n
  | 0, v => by simp [getB, putB, Nat.mod_one]
  | n + 1, v => by
    rw [putB, getB_snoc, getB_put n, Nat.pow_succ, UInt8.toNat_ofNat']
    rw [Nat.mul_comm (256 ^ n) 256, Nat.mod_mul]
    omega
theorem put_get (bs : List UInt8) : putB (getB bs) bs.length = bs := by
  refine snoc_ind (p := fun bs => putB (getB bs) bs.length = bs) rfl (fun l a ih => ?_) bs
  have ha := a.toNat_lt
  rw [getB_snoc, List.length_append, List.length_singleton, putB]
  rw [show (getB l * 256 + a.toNat) / 256 = getB l by omega, show (getB l * 256 + a.toNat) % 256 = a.toNat by omega, ih]
  simp
theorem get_step (x : UInt64) (c : UInt8) (h : x.toNat < 72057594037927936) : (shl64 x 8 ||| c.toUInt64).toNat = x.toNat * 256 + c.toNat := by
  have hc := c.toNat_lt
  have h1 : (shl64 x 8).toNat = x.toNat * 256 := by rw [shl64, UInt64.toNat_ofNat']; omega
  rw [UInt64.toNat_or, h1, UInt8.toNat_toUInt64]
  have h2 := Nat.shiftLeft_add_eq_or_of_lt (a := x.toNat) (b := c.toNat) (i := 8) hc
  rw [Nat.shiftLeft_eq, show (2 : Nat) ^ 8 = 256 by rfl] at h2
  omega
/-- Where the last bytes were written. -/
theorem put_step (v n k : Nat) (h : k < n) : (List.replicate (n - k) (0 : UInt8) ++ (putB v n).drop (n - k)).set (n - 1 - k) (UInt8.ofNat (v / 256 ^ k % 256)) = List.replicate (n - (k + 1)) 0 ++ (putB v n).drop (n - (k + 1)) := by
  have hl := putB_length n v
  have hg := putB_get n v k h
  obtain ⟨d, rfl⟩ : ∃ d, n = k + 1 + d := ⟨n - (k + 1), by omega⟩
  rw [show k + 1 + d - k = d + 1 by omega, show k + 1 + d - 1 - k = d by omega, show k + 1 + d - (k + 1) = d by omega] at *
  have hd : (putB v (k + 1 + d)).drop d = UInt8.ofNat (v / 256 ^ k % 256) :: (putB v (k + 1 + d)).drop (d + 1) := by
    obtain ⟨hlt, he⟩ := List.getElem?_eq_some_iff.1 hg
    rw [List.drop_eq_getElem_cons hlt, he]
  rw [hd, List.replicate_succ', List.append_assoc, List.set_append_right _ _ (by simp)]
  simp
end Go.Eng
