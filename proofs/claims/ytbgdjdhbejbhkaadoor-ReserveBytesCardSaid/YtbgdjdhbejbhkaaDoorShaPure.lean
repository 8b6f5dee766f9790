/-
Contracts of functions, each proved by a walk through its code.
-/
import Derived.Test.YtbgdjdhbejbhkaaDoorOctPure
import Derived.Test.YtbgdjdhbejbhkaaDoorEngX
set_option linter.unusedVariables false
set_option linter.unusedSimpArgs false
namespace Go.Eng
/-! ### SHA-256, as it is summed -/
def kT : List UInt32 := [1116352408, 1899447441, 3049323471, 3921009573, 961987163, 1508970993, 2453635748, 2870763221, 3624381080, 310598401, 607225278, 1426881987, 1925078388, 2162078206, 2614888103, 3248222580, 3835390401, 4022224774, 264347078, 604807628, 770255983, 1249150122, 1555081692, 1996064986, 2554220882, 2821834349, 2952996808, 3210313671, 3336571891, 3584528711, 113926993, 338241895, 666307205, 773529912, 1294757372, 1396182291, 1695183700, 1986661051, 2177026350, 2456956037, 2730485921, 2820302411, 3259730800, 3345764771, 3516065817, 3600352804, 4094571909, 275423344, 430227734, 506948616, 659060556, 883997877, 958139571, 1322822218, 1537002063, 1747873779, 1955562222, 2024104815, 2227730452, 2361852424, 2428436474, 2756734187, 3204031479, 3329325298]
structure H8 where
  a : UInt32
  b : UInt32
  c : UInt32
  d : UInt32
  e : UInt32
  f : UInt32
  g : UInt32
  h : UInt32
abbrev H8.list (s : H8) : List UInt32 := [s.a, s.b, s.c, s.d, s.e, s.f, s.g, s.h]
abbrev H8.vals (s : H8) : List Value := [u32v s.a, u32v s.b, u32v s.c, u32v s.d, u32v s.e, u32v s.f, u32v s.g, u32v s.h]
def H8.init : H8 := ⟨1779033703, 3144134277, 1013904242, 2773480762, 1359893119, 2600822924, 528734635, 1541459225⟩
def rotr (x : UInt32) (n : Nat) : UInt32 := shl32 x (32 - n) ||| shr32 x n
def sS0 (x : UInt32) : UInt32 := rotr x 7 ^^^ rotr x 18 ^^^ shr32 x 3
def sS1 (x : UInt32) : UInt32 := rotr x 17 ^^^ rotr x 19 ^^^ shr32 x 10
def bS0 (x : UInt32) : UInt32 := rotr x 2 ^^^ rotr x 13 ^^^ rotr x 22
def bS1 (x : UInt32) : UInt32 := rotr x 6 ^^^ rotr x 11 ^^^ rotr x 25


def wd (bs : List UInt8) (t : Nat) : UInt32 := UInt32.ofNat (getB ((bs.drop (4 * t)).take 4))
def nextW (w : List UInt32) (t : Nat) : UInt32 := w.getD (t - 16) 0 + sS0 (w.getD (t - 15) 0) + w.getD (t - 7) 0 + sS1 (w.getD (t - 2) 0)
def schd (bs : List UInt8) : Nat → List UInt32
  | 0 => []
  | t + 1 => schd bs t ++ [if t < 16 then wd bs t else nextW (schd bs t) t]
theorem schd_length (bs : List UInt8) : ∀ t, (schd bs t).length = t
  | 0 => rfl
  | t + 1 => by simp [schd, schd_length bs t]
def rT1 (s : H8) (k w : UInt32) : UInt32 := s.h + bS1 s.e + ((s.e &&& s.f) ^^^ (~~~s.e &&& s.g)) + k + w
def rT2 (s : H8) : UInt32 := bS0 s.a + ((s.a &&& s.b) ^^^ (s.a &&& s.c) ^^^ (s.b &&& s.c))
def rnd (s : H8) (k w : UInt32) : H8 := ⟨rT1 s k w + rT2 s, s.a, s.b, s.c, s.d + rT1 s k w, s.e, s.f, s.g⟩
def rounds (ws : List UInt32) (s : H8) : Nat → H8
  | 0 => s
  | t + 1 => rnd (rounds ws s t) (kT.getD t 0) (ws.getD t 0)
def plusH (r s : H8) : H8 := ⟨r.a + s.a, r.b + s.b, r.c + s.c, r.d + s.d, r.e + s.e, r.f + s.f, r.g + s.g, r.h + s.h⟩
def turn (s : H8) (bs : List UInt8) : H8 := plusH (rounds (schd bs 64) s 64) s
/-- Up to place 'i' it is added. -/
def addTo (r s : List UInt32) : Nat → List UInt32
  | 0 => r
  | i + 1 => (addTo r s i).set i ((addTo r s i).getD i 0 + s.getD i 0)
theorem addTo_length (r s : List UInt32) : ∀ i, (addTo r s i).length = r.length
  | 0 => rfl
  | i + 1 => by simp [addTo, addTo_length r s i]
theorem addTo_all (r s : H8) : addTo r.list s.list 8 = (plusH r s).list := rfl
/-- Blocks, one behind the other. -/
def blk (s : H8) (bs : List UInt8) : Nat → H8
  | 0 => s
  | n + 1 => turn (blk s bs n) ((bs.drop (64 * n)).take 64)
theorem blk_append (s : H8) (bs x : List UInt8) : ∀ n, 64 * n ≤ bs.length → blk s (bs ++ x) n = blk s bs n
  | 0, _ => rfl
  | n + 1, h => by
    rw [blk, blk, blk_append s bs x n (by omega), List.drop_append_of_le_length (by omega), List.take_append_of_le_length (by rw [List.length_drop]; omega)]
theorem blk_drop (s : H8) (bs : List UInt8) (m : Nat) : ∀ j, blk (blk s bs m) (bs.drop (64 * m)) j = blk s bs (m + j)
  | 0 => rfl
  | j + 1 => by
    rw [show m + (j + 1) = (m + j) + 1 from rfl, blk, blk, blk_drop s bs m j, List.drop_drop, ← Nat.mul_add]
def padB (n : Nat) : List UInt8 := 128 :: (List.replicate ((119 - n % 64) % 64) 0 ++ putB (n * 8 % 18446744073709551616) 8)
def sumH (s : H8) : List UInt8 := s.list.flatMap fun x => putB x.toNat 4
/-- The sum of a text. -/
def sha (bs : List UInt8) : List UInt8 := sumH (blk H8.init (bs ++ padB bs.length) ((bs ++ padB bs.length).length / 64))
theorem sumH_length (s : H8) : (sumH s).length = 32 := by simp [sumH, putB_length]
theorem sha_length (bs : List UInt8) : (sha bs).length = 32 := sumH_length _
theorem pad_length (n : Nat) : (n + (padB n).length) % 64 = 0 := by
  simp only [padB, List.length_cons, List.length_append, List.length_replicate, putB_length]
  omega







/-- The whole blocks first, then what is left and the pad. -/
theorem sha_parts (bs : List UInt8) : sha bs = sumH (blk (blk H8.init bs (bs.length / 64)) (bs.drop (64 * (bs.length / 64)) ++ 128 :: (List.replicate ((119 - bs.length % 64) % 64) 0 ++ putB (bs.length * 8 % 18446744073709551616) 8)) ((bs.length % 64 + 9 + (119 - bs.length % 64) % 64) / 64)) := by
  have h1 : 64 * (bs.length / 64) ≤ bs.length := by omega
  have h2 := blk_drop H8.init (bs ++ padB bs.length) (bs.length / 64) ((bs.length % 64 + 9 + (119 - bs.length % 64) % 64) / 64)
  rw [blk_append _ _ _ _ h1, List.drop_append_of_le_length h1] at h2
  have h3 : (bs ++ padB bs.length).length / 64 = bs.length / 64 + (bs.length % 64 + 9 + (119 - bs.length % 64) % 64) / 64 := by
    rw [List.length_append, padB, List.length_cons, List.length_append, List.length_replicate, putB_length]
    omega
  rw [sha, h3, ← h2]
  rfl
theorem sha_abc : (sha [97, 98, 99]).take 1 = [186] := by decide +kernel
end Go.Eng
