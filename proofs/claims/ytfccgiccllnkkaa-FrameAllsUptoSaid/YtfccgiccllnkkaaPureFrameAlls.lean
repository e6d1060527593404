/- Of every text of at most 1048576 letters: the frames that the program tells, and their end, are the reference's; and the fixed example. No condition beyond the statement's own. -/
import Derived.Test.YtfccgiccllnkkaaFrameSeq
namespace Go.Proofs.Ytfccgiccllnkkaa.Pure
set_option linter.unusedVariables false
set_option linter.unusedSimpArgs false
open Go Go.RowKit Go.Proofs.Ytfccgiccllnkkaa.Plain Go.Proofs.Ytfccgiccllnkkaa.Words Go.Proofs.Ytfccgiccllnkkaa.PX Go.Proofs.YtfccgiccllnkkaaW.PrintWords Go.Proofs.YtfccgiccllnkkaaW.PrintLast Go.Proofs.YtfccgiccllnkkaaW.PrintMore
theorem frameG_ok (s : ByteArray) (a : Int) (h : (frameG s a).2.2 = 0) : 0 ≤ a ∧ a + 7 ≤ (frameG s a).2.1 ∧ (frameG s a).2.1 ≤ s.size := by
  unfold frameG at h ⊢
  by_cases h2 : (getR s a 2).2.2 = 0
  · obtain ⟨a0, a1, e, g0, g1⟩ := getR2 s a h2
    rw [if_pos h2] at h ⊢
    by_cases c0 : gets s a 2 = 0
    · rw [if_pos c0] at h; simp at h
    rw [if_neg c0] at h ⊢
    by_cases c1 : gets s a 2 > 4096
    · rw [if_pos c1] at h; simp at h
    rw [if_neg c1] at h ⊢
    by_cases c2 : (s.size : Int) - a < 6 + gets s a 2
    · rw [if_pos c2] at h; simp at h
    rw [if_neg c2] at h ⊢
    by_cases c3 : gets s (a + 2) 4 = sumR (s.extract a.toNat (a + 2).toNat ++ s.extract (a + 6).toNat (a + 6 + gets s a 2).toNat)
    · rw [if_pos c3]
      show 0 ≤ a ∧ a + 7 ≤ a + 6 + gets s a 2 ∧ a + 6 + gets s a 2 ≤ s.size
      omega
    · rw [if_neg c3] at h; simp at h
  · rw [if_neg h2] at h; exact absurd h h2
theorem alls_same (s : ByteArray) (hs : s.size ≤ 1048576) (d : Nat) : ∀ (a i : Int) (xs : List ByteArray) (k : Nat), 0 ≤ a → a ≤ s.size → (s.size : Int) - a ≤ d → 0 ≤ i → i ≤ a → xs.length ≤ i → 50000 ≤ k →
    ∃ r, frame_All.l0 (k + d + 1) s xs a = some r ∧ precinctref03_All.l0 (k + d + 1) s xs a i = some r := by
  induction d with
  | zero =>
    intro a i xs k a0 a1 ad i0 i1 hx hk
    have hn : (frameG s a).2.2 ≠ 0 := fun h => by have := frameG_ok s a h; omega
    refine ⟨(xs, a), all_end s xs a ⟨a0, a1⟩ (by omega) hn _ (by omega), ?_⟩
    rw [precinctref03_All.l0, if_pos (by omega), rfget_some _ (by omega) (by omega) (by omega), Option.bind_some, if_neg hn]
  | succ d ih =>
    intro a i xs k a0 a1 ad i0 i1 hx hk
    by_cases hn : (frameG s a).2.2 = 0
    · have ho := frameG_ok s a hn
      obtain ⟨r, e1, e2⟩ := ih (frameG s a).2.1 (i + 1) (xs ++ [(frameG s a).1]) k (by omega) (by omega) (by omega) (by omega) (by omega) (by simp; omega) hk
      refine ⟨r, ?_, ?_⟩
      · rw [show k + (d + 1) + 1 = (k + d + 1) + 1 by omega, frame_All.l0, fget_some _ (by omega) (by omega) (by omega), Option.bind_some, if_pos hn, if_pos (by omega)]
        exact e1
      · rw [show k + (d + 1) + 1 = (k + d + 1) + 1 by omega, precinctref03_All.l0, if_pos (by omega), rfget_some _ (by omega) (by omega) (by omega), Option.bind_some, if_pos hn, if_pos (by omega), w64 (by omega) (by omega)]
        exact e2
    · refine ⟨(xs, a), all_end s xs a ⟨a0, a1⟩ (by omega) hn _ (by omega), ?_⟩
      rw [precinctref03_All.l0, if_pos (by omega), rfget_some _ (by omega) (by omega) (by omega), Option.bind_some, if_neg hn]
theorem same_loop (xs : List ByteArray) (hx : xs.length ≤ 140737488351232) (d : Nat) : ∀ (k i : Nat), i + d = xs.length → precinctlaw03_FrameAlls.l0 (k + d + 1) xs xs (xs.length : Int) i = some true := by
  induction d with
  | zero =>
    intro k i hi
    rw [show k + 0 + 1 = k + 1 by omega, precinctlaw03_FrameAlls.l0, if_neg (by omega)]
  | succ d ih =>
    intro k i hi
    rw [show k + (d + 1) + 1 = (k + d + 1) + 1 by omega, precinctlaw03_FrameAlls.l0, if_pos (by omega), if_pos (by omega), if_pos (by omega), if_pos (by omega), if_pos rfl, w64 (by omega) (by omega)]
    exact ih k (i + 1) (by omega)
theorem all_len (s : ByteArray) (hs : s.size ≤ 1048576) (d : Nat) : ∀ (a : Int) (xs : List ByteArray) (k : Nat) (r : List ByteArray × Int), 0 ≤ a → a ≤ s.size → (s.size : Int) - a ≤ d → 50000 ≤ k → frame_All.l0 (k + d + 1) s xs a = some r → r.1.length ≤ xs.length + d := by
  induction d with
  | zero =>
    intro a xs k r a0 a1 ad hk h
    have hn : (frameG s a).2.2 ≠ 0 := fun h => by have := frameG_ok s a h; omega
    rw [all_end s xs a ⟨a0, a1⟩ (by omega) hn _ (by omega)] at h
    obtain rfl := Option.some.inj h
    simp
  | succ d ih =>
    intro a xs k r a0 a1 ad hk h
    by_cases hn : (frameG s a).2.2 = 0
    · have ho := frameG_ok s a hn
      rw [show k + (d + 1) + 1 = (k + d + 1) + 1 by omega, frame_All.l0, fget_some _ (by omega) (by omega) (by omega), Option.bind_some, if_pos hn] at h
      by_cases hl : xs.length < 8796093022208
      · rw [if_pos hl] at h
        have := ih (frameG s a).2.1 (xs ++ [(frameG s a).1]) k r (by omega) (by omega) (by omega) hk h
        simp at this
        omega
      · rw [if_neg hl] at h; cases h
    · rw [all_end s xs a ⟨a0, a1⟩ (by omega) hn _ (by omega)] at h
      obtain rfl := Option.some.inj h
      simp
theorem FrameAlls : ∀ (a0 : ByteArray), a0.size ≤ 1048576 → ∃ k, precinctlaw03_FrameAlls.f k a0 = some true := by
  intro s hs
  obtain ⟨r, e1, e2⟩ := alls_same s hs s.size 0 0 [] 2000000 (by omega) (by omega) (by omega) (by omega) (by omega) (by simp) (by omega)
  have hl := all_len s hs s.size 0 [] 2000000 r (by omega) (by omega) (by omega) (by omega) e1
  simp at hl
  refine ⟨2000000 + s.size + 1, ?_⟩
  unfold precinctlaw03_FrameAlls.f frame_All.f precinctref03_All.f
  rw [e1, e2, Option.bind_some, Option.bind_some, fwakes_some _ (by omega), Option.bind_some, if_pos rfl, if_pos rfl]
  have hb : ((r.1.length : Int) != (r.1.length : Int)) = false := by simp
  rw [hb, show 2000000 + s.size + 1 = (2000000 + s.size) + 1 by omega, precinctlaw03_FrameAlls.j0, if_neg (by simp)]
  have e := same_loop r.1 (by omega) r.1.length (2000000 + s.size - r.1.length - 1) 0 (by omega)
  rw [show 2000000 + s.size - r.1.length - 1 + r.1.length + 1 = 2000000 + s.size by omega] at e
  exact e
end Go.Proofs.Ytfccgiccllnkkaa.Pure
