/-
  Frames one behind the other: what All of package frame comes to over them.
-/
import Derived.Test.YtfccgiccllnkkaaFrames
import Derived.Test.YtfccgiccllnkkaaBytes
import Derived.Test.YtfccgiccllnkkaaPYx2
namespace Go.Proofs.Ytfccgiccllnkkaa.Words
set_option linter.unusedVariables false
set_option linter.unusedSimpArgs false
open Go Go.RowKit Go.Proofs.Ytfccgiccllnkkaa.Plain Go.Proofs.Ytfccgiccllnkkaa.PY Go.Proofs.YtfccgiccllnkkaaW.PrintWords Go.Proofs.YtfccgiccllnkkaaW.PrintLast Go.Proofs.YtfccgiccllnkkaaW.PrintMore
theorem gets_put (A R : ByteArray) (w n : Int) (h : 0 ≤ n) (w0 : 1 ≤ w) (w1 : w ≤ 8) : gets (A ++ (put w n ++ R)) A.size w.toNat = n % 256 ^ w.toNat := by
  have e := get_put A R w n h w0 w1
  have z : (put w n).size = w.toNat := by rw [size_put]; omega
  unfold getR at e
  rw [if_neg (by rw [ByteArray.size_append]; omega), if_neg (by rw [ByteArray.size_append, ByteArray.size_append]; omega)] at e
  exact (Prod.mk.inj e).1
/-- a body that has a frame -/
def valid (b : ByteArray) : Bool := decide (0 < b.size ∧ b.size ≤ 4096)
theorem size_frameB (b : ByteArray) : (frameB b).size = 6 + b.size := by
  unfold frameB
  have z2 : (put 2 b.size).size = 2 := by rw [size_put]; rfl
  have z4 : ∀ c, (put 4 c).size = 4 := by intro c; rw [size_put]; rfl
  rw [ByteArray.size_append, ByteArray.size_append, z2, z4]
/-- at a frame stands its body -/
theorem frameG_at (A R b : ByteArray) (hb : valid b = true) : frameG (A ++ (frameB b ++ R)) A.size = (b, (A.size : Int) + 6 + b.size, 0) := by
  have hv := of_decide_eq_true hb
  have z2 : (put 2 b.size).size = 2 := by rw [size_put]; rfl
  have z4 : ∀ c, (put 4 c).size = 4 := by intro c; rw [size_put]; rfl
  have hr := sumR_range (put 2 b.size ++ b)
  have s0 : A ++ (frameB b ++ R) = A ++ (put 2 b.size ++ (put 4 (sumR (put 2 b.size ++ b)) ++ (b ++ R))) := by
    unfold frameB; simp only [ByteArray.append_assoc]
  have s1 : A ++ (frameB b ++ R) = (A ++ put 2 b.size) ++ (put 4 (sumR (put 2 b.size ++ b)) ++ (b ++ R)) := by
    rw [s0]; simp only [ByteArray.append_assoc]
  have s2 : A ++ (frameB b ++ R) = (A ++ put 2 b.size ++ put 4 (sumR (put 2 b.size ++ b))) ++ (b ++ R) := by
    rw [s0]; simp only [ByteArray.append_assoc]
  have g2 : getR (A ++ (frameB b ++ R)) A.size 2 = ((b.size : Int), (A.size : Int) + 2, 0) := by
    rw [s0, get_put A _ 2 b.size (by omega) (by omega) (by omega)]
    have : (b.size : Int) % 256 ^ (2 : Int).toNat = b.size := by show (b.size : Int) % 65536 = _; omega
    rw [this]
  have n2 : gets (A ++ (frameB b ++ R)) A.size 2 = b.size := by
    have e := gets_put A (put 4 (sumR (put 2 b.size ++ b)) ++ (b ++ R)) 2 b.size (by omega) (by omega) (by omega)
    rw [← s0] at e
    have : (b.size : Int) % 256 ^ (2 : Int).toNat = b.size := by show (b.size : Int) % 65536 = _; omega
    rw [this] at e
    exact e
  have n4 : gets (A ++ (frameB b ++ R)) ((A.size : Int) + 2) 4 = sumR (put 2 b.size ++ b) := by
    have e := gets_put (A ++ put 2 b.size) (b ++ R) 4 (sumR (put 2 b.size ++ b)) hr.1 (by omega) (by omega)
    rw [← s1, show (((A ++ put 2 b.size).size : Nat) : Int) = (A.size : Int) + 2 by rw [ByteArray.size_append, z2]; omega] at e
    have : sumR (put 2 b.size ++ b) % 256 ^ (4 : Int).toNat = sumR (put 2 b.size ++ b) := by show sumR (put 2 b.size ++ b) % 4294967296 = _; omega
    rw [this] at e
    exact e
  have c2 : (A ++ (frameB b ++ R)).extract (A.size : Int).toNat ((A.size : Int) + 2).toNat = put 2 b.size := by
    have e := cut_mid A (put 2 b.size) (put 4 (sumR (put 2 b.size ++ b)) ++ (b ++ R))
    rw [← s0, z2] at e
    rw [show (A.size : Int).toNat = A.size by omega, show ((A.size : Int) + 2).toNat = A.size + 2 by omega]
    exact e
  have c6 : (A ++ (frameB b ++ R)).extract ((A.size : Int) + 6).toNat ((A.size : Int) + 6 + b.size).toNat = b := by
    have e := cut_mid (A ++ put 2 b.size ++ put 4 (sumR (put 2 b.size ++ b))) b R
    rw [← s2, ByteArray.size_append, ByteArray.size_append, z2, z4] at e
    rw [show ((A.size : Int) + 6).toNat = A.size + 2 + 4 by omega, show ((A.size : Int) + 6 + b.size).toNat = A.size + 2 + 4 + b.size by omega]
    exact e
  have hz : (A ++ (frameB b ++ R)).size = A.size + (6 + b.size + R.size) := by rw [ByteArray.size_append, ByteArray.size_append, size_frameB]
  unfold frameG
  rw [g2, n2]
  rw [if_pos rfl, if_neg (by omega), if_neg (by omega), if_neg (by omega), n4, c2, c6, if_pos rfl]
def encF : List ByteArray → ByteArray
  | [] => ByteArray.empty
  | b :: r => frameB b ++ encF r
/-- where no frame stands -/
theorem all_end (s : ByteArray) (xs : List ByteArray) (a : Int) (ha : 0 ≤ a ∧ a ≤ s.size) (hs : s.size ≤ 140737488351232 * 4) (h : (frameG s a).2.2 ≠ 0) (k : Nat) (hk : 50000 ≤ k) : frame_All.l0 (k + 1) s xs a = some (xs, a) := by
  rw [frame_All.l0, fget_some k (by omega) hs hk, Option.bind_some, if_neg h]
theorem all_frames (Z : ByteArray) (bs : List ByteArray) : ∀ (A : ByteArray) (xs : List ByteArray) (k : Nat), (∀ b ∈ bs, valid b = true) → xs.length + bs.length < 8796093022208 → (A ++ (encF bs ++ Z)).size ≤ 140737488351232 * 4 → 50000 ≤ k →
    (frameG (A ++ encF bs ++ Z) ((A ++ encF bs).size : Int)).2.2 ≠ 0 →
    frame_All.l0 (k + bs.length + 1) (A ++ (encF bs ++ Z)) xs A.size = some (xs ++ bs, ((A ++ encF bs).size : Int)) := by
  induction bs with
  | nil =>
    intro A xs k hv hx hs hk he
    have e : A ++ (encF [] ++ Z) = A ++ encF [] ++ Z := by rw [ByteArray.append_assoc]
    rw [e] at hs ⊢
    have z : (A ++ encF []).size = A.size := by rw [ByteArray.size_append]; rfl
    rw [z] at he ⊢
    rw [List.append_nil]
    exact all_end _ xs _ ⟨by omega, by rw [ByteArray.size_append, z]; omega⟩ hs he k hk
  | cons b r ih =>
    intro A xs k hv hx hs hk he
    have hb := hv b (List.mem_cons_self ..)
    have e0 : A ++ (encF (b :: r) ++ Z) = A ++ (frameB b ++ (encF r ++ Z)) := by simp only [encF, ByteArray.append_assoc]
    have e1 : A ++ (encF (b :: r) ++ Z) = (A ++ frameB b) ++ (encF r ++ Z) := by simp only [encF, ByteArray.append_assoc]
    have e2 : A ++ encF (b :: r) = (A ++ frameB b) ++ encF r := by simp only [encF, ByteArray.append_assoc]
    simp only [List.length_cons] at hx
    have hsz : ((A ++ frameB b).size : Int) = (A.size : Int) + 6 + b.size := by rw [ByteArray.size_append, size_frameB]; omega
    have st := ih (A ++ frameB b) (xs ++ [b]) k (fun x hx => hv x (List.mem_cons_of_mem _ hx)) (by simp; omega) (by rw [← e1]; exact hs) hk (by rw [← e2]; exact he)
    have hA : (A.size : Int) ≤ 9223372036854775807 := by rw [ByteArray.size_append] at hs; omega
    rw [List.length_cons, show k + (r.length + 1) + 1 = (k + r.length + 1) + 1 by omega, frame_All.l0, fget_some _ (by omega) hs (by omega), e0, frameG_at A _ b hb, Option.bind_some, if_pos rfl, if_pos (by omega), ← e0, e1, ← hsz, st, e2]
    simp
theorem fall_some {s : ByteArray} (bs : List ByteArray) (Z : ByteArray) (hsplit : s = encF bs ++ Z) (hv : ∀ b ∈ bs, valid b = true) (hx : bs.length < 8796093022208) (hs : s.size ≤ 140737488351232 * 4) (he : (frameG s ((encF bs).size : Int)).2.2 ≠ 0) (k : Nat) (hk : 50001 + bs.length ≤ k) :
    frame_All.f k s = some (bs, ((encF bs).size : Int)) := by
  obtain ⟨j, rfl⟩ : ∃ j, k = j + bs.length + 1 := ⟨k - bs.length - 1, by omega⟩
  unfold frame_All.f
  have a := all_frames Z bs ByteArray.empty [] j hv (by simpa using hx) (by rw [ByteArray.empty_append, ← hsplit]; exact hs) (by omega) (by rw [ByteArray.empty_append, ← hsplit]; exact he)
  rw [ByteArray.empty_append, ByteArray.empty_append, ← hsplit] at a
  exact a
end Go.Proofs.Ytfccgiccllnkkaa.Words
