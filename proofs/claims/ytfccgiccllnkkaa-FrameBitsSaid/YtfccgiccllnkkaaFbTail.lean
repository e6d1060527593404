/-
  FrameBits: what is asked of the frames with a bit turned.
-/
import Derived.Test.YtfccgiccllnkkaaFrameFlip
import Derived.Test.YtfccgiccllnkkaaPYx2
namespace Go.Proofs.Ytfccgiccllnkkaa.Words
set_option linter.unusedVariables false
set_option linter.unusedSimpArgs false
open Go Go.RowKit Go.Proofs.Ytfccgiccllnkkaa.Plain Go.Proofs.Ytfccgiccllnkkaa.PY Go.Proofs.YtfccgiccllnkkaaW.PrintWords Go.Proofs.YtfccgiccllnkkaaW.PrintLast Go.Proofs.YtfccgiccllnkkaaW.PrintMore
def good (s : ByteArray) (fr bit : Int) (bs : List ByteArray) (k : Int) (r : List ByteArray × Int) : Prop :=
  r.1 = bs.take k.toNat ∧ r.2 = fr - 2 ∧ 0 ≤ bit ∧ 2 ≤ fr ∧ fr + bit / 8 < s.size ∧ 0 ≤ k ∧ k < bs.length ∧ s.size ≤ 140737488351232 ∧ bs.length ≤ 10
instance (s : ByteArray) (fr bit : Int) (bs : List ByteArray) (k : Int) (r : List ByteArray × Int) : Decidable (good s fr bit bs k r) := by unfold good; infer_instance
/-- the text with a bit turned, read: none if it isn't what the law wants -/
def tailF (K : Nat) (s : ByteArray) (fr bit : Int) (bs : List ByteArray) (k : Int) : Option Bool :=
  (frame_All.f K (setB s (fr + bit / 8).toNat (bits .xor .u8 (bt s (fr + bit / 8)) (2 ^ (bit % 8).toNat)))).bind fun r => if good s fr bit bs k r then some true else none
theorem tailF.mono (s : ByteArray) (fr bit : Int) (bs : List ByteArray) (k : Int) (K : Nat) : LeO (tailF K s fr bit bs k) (tailF (K + 1) s fr bit bs k) := by
  unfold tailF
  exact LeO.bind (frame_All.mono _ _) (fun _ => LeO.refl _)
/-- what the walk takes from it -/
theorem tailF_some {K : Nat} {s : ByteArray} {fr bit : Int} {bs : List ByteArray} {k : Int} {r : Bool} (h : tailF K s fr bit bs k = some r) :
    ∃ n q f i : Nat, bit = (n : Int) ∧ fr = (f : Int) ∧ k = (i : Int) ∧ q = n / 8 ∧ 2 ≤ f ∧ f + q < s.size ∧ i < bs.length ∧ s.size ≤ 140737488351232 ∧ bs.length ≤ 10 ∧ r = true ∧
      frame_All.f K (strOfNums ((bytesOf s).set (f + q) (bits .xor .u8 (bt s (f + q : Nat)) (2 ^ (n % 8))))) = some (bs.take i, ((f - 2 : Nat) : Int)) := by
  unfold tailF at h
  obtain ⟨⟨g, a⟩, hA, h'⟩ := Option.bind_eq_some_iff.1 h
  clear h
  split at h'
  · rename_i hg
    obtain ⟨h1, h2, h3, h4, h5, h6, h7, h8, h9⟩ := hg
    obtain ⟨n, rfl⟩ := Int.eq_ofNat_of_zero_le h3
    obtain ⟨f, rfl⟩ := Int.eq_ofNat_of_zero_le (show 0 ≤ fr by omega)
    obtain ⟨i, rfl⟩ := Int.eq_ofNat_of_zero_le h6
    refine ⟨n, n / 8, f, i, rfl, rfl, rfl, rfl, by omega, by omega, by omega, h8, h9, (Option.some.inj h').symm, ?_⟩
    have e1 : ((f : Int) + (n : Int) / 8) = ((f + n / 8 : Nat) : Int) := by omega
    have e2 : (((n : Int) % 8).toNat) = n % 8 := by omega
    simp only at h1 h2
    rw [e1, e2, Int.toNat_natCast] at hA
    unfold setB at hA
    rw [hA, h1, h2, show ((f : Int) - 2) = ((f - 2 : Nat) : Int) by omega]
    rfl
  · cases h'
theorem tdiv8 {n q : Nat} (h : q = n / 8) : Int.tdiv (n : Int) 8 = (q : Int) := by rw [Int.tdiv_eq_ediv_of_nonneg (by omega)]; omega
theorem tmod8 (n : Nat) : Int.tmod (n : Int) 8 = ((n % 8 : Nat) : Int) := by rw [Int.tmod_eq_emod_of_nonneg (by omega)]; omega
theorem add64 {f q : Nat} {s : ByteArray} (h : f + q < s.size) (h' : s.size ≤ 140737488351232) : IntKind.i64.wrap ((f : Int) + (q : Int)) = ((f + q : Nat) : Int) := by rw [wi64, w64 (by omega) (by omega)]; omega
theorem wi_small (q : Nat) (h : q < 9223372036854775808) : IntKind.i64.wrap (q : Int) = (q : Int) := by rw [wi64, w64 (by omega) (by omega)]
theorem wi_lt {f q : Nat} {s : ByteArray} (h : f + q < s.size) (h' : s.size ≤ 140737488351232) : IntKind.i64.wrap (q : Int) = (q : Int) := wi_small q (by omega)
theorem wi_lt8 {e : Nat} (h : e < 8) : IntKind.i64.wrap (e : Int) = (e : Int) := wi_small e (by omega)
theorem sub64 {f q : Nat} {s : ByteArray} (h : f + q < s.size) (h' : s.size ≤ 140737488351232) (h2 : 2 ≤ f) : IntKind.i64.wrap ((f : Int) - 2) = ((f - 2 : Nat) : Int) := by rw [wi64, w64 (by omega) (by omega)]; omega
theorem mx_nn {a x : Int} (h : mx 0 a = x) : 0 ≤ x := by rw [← h]; unfold mx; split <;> omega
theorem tmod_of {x y : Int} {n : Nat} (h0 : 0 ≤ x) (h : x % y = (n : Int)) : Int.tmod x y = (n : Int) := by rw [Int.tmod_eq_emod_of_nonneg h0, h]
theorem small_size {s : ByteArray} (h : s.size ≤ 140737488351232) : s.size ≤ 9223372036854775807 := by omega
theorem conv_cell (W : World) (e : TypeId) (s : ByteArray) (p : Nat) (hp : p < s.size) : (Lib.bytesWorld W e s).cell? ⟨W.heap.size, p, none⟩ = some (.int .u8 (bt s (p : Int))) := by
  rw [Lib.bytesWorld_cell W e s p hp, Plain.bt_data _ _ hp]
theorem conv_frozen (W : World) (e : TypeId) (s : ByteArray) (p : Nat) (hp : p < s.size) : (Lib.bytesWorld W e s).frozen? ⟨W.heap.size, p, none⟩ = false := by
  have hsz : p < (Lib.bytesCells W e s).size := by simp [Lib.bytesCells]; omega
  simp [World.frozen?, Lib.bytesWorld_at_new]
  omega
theorem shl8 {e : Nat} (h : e < 8) : shl .u8 1 (e : Int) = 2 ^ e := by
  rcases (show e = 0 ∨ e = 1 ∨ e = 2 ∨ e = 3 ∨ e = 4 ∨ e = 5 ∨ e = 6 ∨ e = 7 by omega) with rfl | rfl | rfl | rfl | rfl | rfl | rfl | rfl <;> rfl
theorem reads_set {W : World} {g n : Nat} {xs : List Int} (h : ReadsInt W .u8 (some ⟨g, 0, none⟩) n xs) (i : Nat) (hi : i < n) (v : Int) {old : Value} (hc : W.cell? ⟨g, i, none⟩ = some old) : ReadsInt (W.setCell ⟨g, i, none⟩ (.int .u8 v)) .u8 (some ⟨g, 0, none⟩) n (xs.set i v) := by
  refine ⟨by rw [List.length_set]; exact h.1, h.2.1, fun hp => ?_⟩
  obtain ⟨ad, e, hcell⟩ := h.2.2 hp
  obtain rfl := Option.some.inj e
  have hn := h.1
  refine ⟨_, rfl, fun j hj => ?_⟩
  have hc2 := hcell j hj
  rw [add_plain] at hc2 ⊢
  by_cases c : j = i
  · subst c
    rw [World.cell?_setCell_same _ _ _ hc]
    simp [List.getD_eq_getElem?_getD, List.getElem?_set, hn, hi]
  · rw [World.cell?_setCell_other _ _ _ _ (show (⟨g, i, none⟩ : Addr) ≠ ⟨g, j, none⟩ from fun e => c (by injection e with _ e2; exact e2.symm)), hc2]
    simp [List.getD_eq_getElem?_getD, List.getElem?_set, Ne.symm c]
theorem pow8_256 {e : Nat} (h : e < 8) : (2 : Int) ^ e % 256 = 2 ^ e := by
  rcases (show e = 0 ∨ e = 1 ∨ e = 2 ∨ e = 3 ∨ e = 4 ∨ e = 5 ∨ e = 6 ∨ e = 7 by omega) with rfl | rfl | rfl | rfl | rfl | rfl | rfl | rfl <;> rfl
theorem got_slice {e base : Nat} {ok : Nat → Prop} {w : World} {v : Value} {xs : List ByteArray} {i : Nat} (hl : xs.length = i) (h : Kd.R Kd.string e w base ok v xs) : ∃ A c, v = .slice A i c ∧ Kd.R Kd.string e w base ok (.slice A i c) xs := by
  subst hl
  obtain ⟨A, c, rfl⟩ := Kd.R_slice h
  exact ⟨A, c, rfl, h⟩
theorem rd_take (xs : List ByteArray) (i j : Nat) (h : j < i) : rdOf ByteArray.empty (xs.take i) (j : Int) = rdOf ByteArray.empty xs (j : Int) := by
  unfold rdOf
  rw [Int.toNat_natCast, List.getD_eq_getElem?_getD, List.getD_eq_getElem?_getD, List.getElem?_take_of_lt h]
end Go.Proofs.Ytfccgiccllnkkaa.Words
