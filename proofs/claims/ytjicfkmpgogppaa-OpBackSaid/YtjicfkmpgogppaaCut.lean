/-
  Bytes cut off are too short.
-/
import Derived.Test.YtjicfkmpgogppaaCodec
namespace Go.Proofs.Ytjicfkmpgogppaa.Co
set_option linter.unusedVariables false
set_option linter.unusedSimpArgs false
open Go Go.RowKit Go.Proofs.Ytjicfkmpgogppaa.Plain Go.Proofs.Ytjicfkmpgogppaa.Words Go.Proofs.Ytjicfkmpgogppaa.Vr Go.Proofs.Ytjicfkmpgogppaa.Vs Go.Proofs.Ytjicfkmpgogppaa.Pk Go.Proofs.Ytjicfkmpgogppaa.Pv Go.Proofs.Ytjicfkmpgogppaa.PO Go.Proofs.YtjicfkmpgogppaaW.PrintWords Go.Proofs.YtjicfkmpgogppaaW.PrintLast Go.Proofs.YtjicfkmpgogppaaW.PrintMore
theorem gets_left (S Q : ByteArray) (a : Int) (h0 : 0 ≤ a) : ∀ n : Nat, a + n ≤ S.size → gets (S ++ Q) a n = gets S a n
  | 0, _ => rfl
  | n + 1, h => by
    simp only [gets]
    rw [gets_left S Q a h0 n (by omega)]
    obtain ⟨m, hm⟩ : ∃ m : Nat, a + n = m := ⟨(a + n).toNat, by omega⟩
    rw [hm, bt_left S Q m (by omega)]
theorem getR_cut (S Q : ByteArray) (a w : Int) (h : (getR (S ++ Q) a w).2.2 = 0) : (a + w ≤ S.size → getR S a w = getR (S ++ Q) a w) ∧ (S.size < a + w → a ≤ S.size → getR S a w = (0, 0, 3)) := by
  have b := Rr.gbounds _ _ _ h
  have hz : (S ++ Q).size = S.size + Q.size := size_app S Q
  constructor
  · intro hs
    unfold getR
    rw [if_neg (by omega), if_neg (by omega), if_neg (by omega), if_neg (by omega), gets_left S Q a b.2.2.1 w.toNat (by omega)]
  · intro hs ha
    unfold getR
    rw [if_neg (by omega), if_pos (by omega)]
theorem extract_left (S Q : ByteArray) (i j : Nat) (h : j ≤ S.size) : (S ++ Q).extract i j = S.extract i j := by
  apply ByteArray.ext
  have h' : j ≤ S.data.size := h
  simp only [ByteArray.data_extract, ByteArray.data_append, Array.extract_append]
  have : j - S.data.size = 0 := by omega
  rw [this]
  simp
theorem gtextR_cut (S Q : ByteArray) (a : Int) (h : (gtextR (S ++ Q) a).2.2 = 0) : a + 2 ≤ (gtextR (S ++ Q) a).2.1 ∧ ((gtextR (S ++ Q) a).2.1 ≤ S.size → gtextR S a = gtextR (S ++ Q) a) ∧ (S.size < (gtextR (S ++ Q) a).2.1 → a ≤ S.size → (gtextR S a).2.2 = 3) := by
  have hz : (S ++ Q).size = S.size + Q.size := size_app S Q
  by_cases c1 : (getR (S ++ Q) a 2).2.2 = 0
  · have b := Rr.gbounds _ _ _ c1
    have g := getR_cut S Q a 2 c1
    by_cases c2 : ((S ++ Q).size : Int) - (getR (S ++ Q) a 2).2.1 < (getR (S ++ Q) a 2).1
    · exfalso
      unfold gtextR at h
      rw [if_pos c1, if_pos c2] at h
      exact absurd h (by decide)
    have e : gtextR (S ++ Q) a = ((S ++ Q).extract (getR (S ++ Q) a 2).2.1.toNat ((getR (S ++ Q) a 2).2.1 + (getR (S ++ Q) a 2).1).toNat, (getR (S ++ Q) a 2).2.1 + (getR (S ++ Q) a 2).1, 0) := by
      unfold gtextR
      rw [if_pos c1, if_neg c2]
    rw [e]
    refine ⟨by show a + 2 ≤ (getR (S ++ Q) a 2).2.1 + (getR (S ++ Q) a 2).1; omega, fun hq => ?_, fun hq ha => ?_⟩
    · have hq' : (getR (S ++ Q) a 2).2.1 + (getR (S ++ Q) a 2).1 ≤ S.size := hq
      unfold gtextR
      rw [g.1 (by omega), if_pos c1, if_neg (by omega), extract_left S Q _ _ (by omega)]
    · have hq' : (S.size : Int) < (getR (S ++ Q) a 2).2.1 + (getR (S ++ Q) a 2).1 := hq
      unfold gtextR
      by_cases hs : a + 2 ≤ S.size
      · rw [g.1 hs, if_pos c1, if_pos (by omega)]
      · rw [g.2 (by omega) ha]
        rfl
  · exfalso
    unfold gtextR at h
    rw [if_neg c1] at h
    exact absurd h c1
theorem intR_cut (S Q : ByteArray) (i : Int) (h : (intR (S ++ Q) i).1 = 0) (hi : i ≤ S.size) : i + 1 ≤ (intR (S ++ Q) i).2.2 ∧ ((intR (S ++ Q) i).2.2 ≤ S.size → intR S i = intR (S ++ Q) i) ∧ (S.size < (intR (S ++ Q) i).2.2 → (intR S i).1 = 3) := by
  by_cases c1 : (getR (S ++ Q) i 1).2.2 = 0
  · have b := Rr.gbounds _ _ _ c1
    have g := getR_cut S Q i 1 c1
    by_cases c2 : (getR (S ++ Q) i 1).1 > 8
    · exfalso
      unfold intR at h
      rw [if_pos c1, if_pos c2] at h
      exact absurd h (by decide)
    by_cases c3 : (getR (S ++ Q) i 1).1 = 0
    · have e : intR (S ++ Q) i = (0, 0, (getR (S ++ Q) i 1).2.1) := by
        unfold intR
        rw [if_pos c1, if_neg c2, if_pos c3]
      rw [e]
      refine ⟨by show i + 1 ≤ (getR (S ++ Q) i 1).2.1; omega, fun hq => ?_, fun hq => ?_⟩
      · have hq' : (getR (S ++ Q) i 1).2.1 ≤ S.size := hq
        unfold intR
        rw [g.1 (by omega), if_pos c1, if_neg c2, if_pos c3]
      · have hq' : (S.size : Int) < (getR (S ++ Q) i 1).2.1 := hq
        unfold intR
        rw [g.2 (by omega) hi]
        rfl
    by_cases c4 : (getR (S ++ Q) (getR (S ++ Q) i 1).2.1 (getR (S ++ Q) i 1).1).2.2 = 0
    · have b2 := Rr.gbounds _ _ _ c4
      have g2 := getR_cut S Q _ _ c4
      by_cases c5 : (getR (S ++ Q) (getR (S ++ Q) i 1).2.1 (getR (S ++ Q) i 1).1).1 / 2 ^ (8 * ((getR (S ++ Q) i 1).1 - 1)).toNat = 0
      · exfalso
        unfold intR at h
        rw [if_pos c1, if_neg c2, if_neg c3, if_pos c4, if_pos c5] at h
        exact absurd h (by decide)
      have e : (intR (S ++ Q) i).2.2 = (getR (S ++ Q) (getR (S ++ Q) i 1).2.1 (getR (S ++ Q) i 1).1).2.1 := by
        unfold intR
        rw [if_pos c1, if_neg c2, if_neg c3, if_pos c4, if_neg c5]
      rw [e]
      refine ⟨by omega, fun hq => ?_, fun hq => ?_⟩
      · unfold intR
        rw [g.1 (by omega), g2.1 (by omega)]
      · unfold intR
        by_cases hs : i + 1 ≤ S.size
        · rw [g.1 hs, if_pos c1, if_neg c2, if_neg c3, g2.2 (by omega) (by omega)]
          rfl
        · rw [g.2 (by omega) hi]
          rfl
    · exfalso
      unfold intR at h
      rw [if_pos c1, if_neg c2, if_neg c3, if_neg c4] at h
      exact absurd h c4
  · exfalso
    unfold intR at h
    rw [if_neg c1] at h
    exact absurd h c1
theorem list_le (f : Int → Option (Int × V × Int)) (hm : ∀ (i : Int) x q, 0 ≤ i → f i = some (0, x, q) → i + 1 ≤ q) : ∀ (n : Nat) (i : Int) (l : List V) (q : Int), 0 ≤ i → listR f n i = some (0, l, q) → i ≤ q
  | 0, i, l, q, h0, h => by
    simp only [listR, Option.some.injEq, Prod.mk.injEq, true_and] at h
    omega
  | n + 1, i, l, q, h0, h => by
    simp only [listR] at h
    obtain ⟨⟨e, x, p⟩, hx, h⟩ := Option.bind_eq_some_iff.mp h
    dsimp only at h
    by_cases c : e = 0
    · subst c
      rw [if_pos rfl] at h
      obtain ⟨⟨e2, l2, q2⟩, hy, h⟩ := Option.bind_eq_some_iff.mp h
      simp only [Option.some.injEq, Prod.mk.injEq] at h
      obtain ⟨rfl, rfl, rfl⟩ := h
      have := hm i x p h0 hx
      have := list_le f hm n p l2 q2 (by omega) hy
      omega
    · rw [if_neg c] at h
      simp only [Option.some.injEq, Prod.mk.injEq] at h
      exact absurd h.1 c
theorem list_cut (S : ByteArray) (f g : Int → Option (Int × V × Int)) (hf : ∀ (i : Int) x q, 0 ≤ i → i ≤ S.size → f i = some (0, x, q) → i + 1 ≤ q ∧ (q ≤ S.size → g i = some (0, x, q)) ∧ (S.size < q → g i = some (3, no, 0))) (hm : ∀ (i : Int) x q, 0 ≤ i → f i = some (0, x, q) → i + 1 ≤ q) :
    ∀ (n : Nat) (i : Int) (l : List V) (q : Int), 0 ≤ i → i ≤ S.size → listR f n i = some (0, l, q) → i ≤ q ∧ (q ≤ S.size → listR g n i = some (0, l, q)) ∧ (S.size < q → ∃ l', listR g n i = some (3, l', 0))
  | 0, i, l, q, h0, h1, h => by
    simp only [listR, Option.some.injEq, Prod.mk.injEq, true_and] at h
    obtain ⟨rfl, rfl⟩ := h
    exact ⟨Int.le_refl _, fun _ => rfl, fun hs => absurd hs (by omega)⟩
  | n + 1, i, l, q, h0, h1, h => by
    simp only [listR] at h
    obtain ⟨⟨e, x, p⟩, hx, h⟩ := Option.bind_eq_some_iff.mp h
    dsimp only at h
    by_cases c : e = 0
    · subst c
      rw [if_pos rfl] at h
      obtain ⟨⟨e2, l2, q2⟩, hy, h⟩ := Option.bind_eq_some_iff.mp h
      simp only [Option.some.injEq, Prod.mk.injEq] at h
      obtain ⟨rfl, rfl, rfl⟩ := h
      have gx := hf i x p h0 h1 hx
      by_cases hp : p ≤ S.size
      · have gy := list_cut S f g hf hm n p l2 q2 (by omega) hp hy
        refine ⟨by omega, fun hq => ?_, fun hq => ?_⟩
        · simp only [listR]
          rw [gx.2.1 hp, Option.bind_some]
          dsimp only
          rw [if_pos rfl, gy.2.1 hq]; rfl
        · obtain ⟨l', hl'⟩ := gy.2.2 hq
          refine ⟨x :: l', ?_⟩
          simp only [listR]
          rw [gx.2.1 hp, Option.bind_some]
          dsimp only
          rw [if_pos rfl, hl']; rfl
      · have hle := list_le f hm n p l2 q2 (by omega) hy
        refine ⟨by omega, fun hq => by omega, fun hq => ⟨[], ?_⟩⟩
        simp only [listR]
        rw [gx.2.2 (by omega), Option.bind_some]
        dsimp only
        rw [if_neg (by decide)]
    · rw [if_neg c] at h
      simp only [Option.some.injEq, Prod.mk.injEq] at h
      exact absurd h.1 c
theorem val_more : ∀ (k : Nat) (s : ByteArray) (i d : Int) (x : V) (q : Int), 0 ≤ i → valR mk no k s i d = some (0, x, q) → i + 1 ≤ q
  | 0, _, _, _, _, _, _, h => by simp [valR] at h
  | k + 1, s, i, d, x, q, h0, h => by
    simp only [valR] at h
    by_cases c1 : (getR s i 1).2.2 = 0
    · rw [if_pos c1] at h
      have b := Rr.gbounds _ _ _ c1
      by_cases k1 : (getR s i 1).1 = 1
      · rw [if_pos k1] at h
        by_cases c2 : (intR s (getR s i 1).2.1).1 = 0
        · rw [if_pos c2] at h
          have e : s = s ++ (⟨#[]⟩ : ByteArray) := ByteArray.append_empty.symm
          have g := intR_cut s (⟨#[]⟩ : ByteArray) (getR s i 1).2.1 (by rw [← e]; exact c2) (by omega)
          rw [← e] at g
          simp only [Option.some.injEq, Prod.mk.injEq, true_and] at h
          omega
        · rw [if_neg c2] at h
          simp only [Option.some.injEq, Prod.mk.injEq] at h
          exact absurd h.1 c2
      rw [if_neg k1] at h
      by_cases k2 : (getR s i 1).1 = 2
      · rw [if_pos k2] at h
        by_cases c2 : (gtextR s (getR s i 1).2.1).2.2 = 0
        · rw [if_pos c2] at h
          have e : s = s ++ (⟨#[]⟩ : ByteArray) := ByteArray.append_empty.symm
          have g := gtextR_cut s (⟨#[]⟩ : ByteArray) (getR s i 1).2.1 (by rw [← e]; exact c2)
          rw [← e] at g
          by_cases c3 : ((gtextR s (getR s i 1).2.1).1.size : Int) > 4096
          · rw [if_pos c3] at h; simp at h
          · rw [if_neg c3] at h
            simp only [Option.some.injEq, Prod.mk.injEq, true_and] at h
            omega
        · rw [if_neg c2] at h
          simp only [Option.some.injEq, Prod.mk.injEq] at h
          exact absurd h.1 c2
      rw [if_neg k2] at h
      by_cases k3 : (getR s i 1).1 = 3
      · rw [if_pos k3] at h
        by_cases c2 : d ≥ 8
        · rw [if_pos c2] at h; simp at h
        rw [if_neg c2] at h
        by_cases c3 : (getR s (getR s i 1).2.1 2).2.2 = 0
        · rw [if_pos c3] at h
          have b2 := Rr.gbounds _ _ _ c3
          by_cases c4 : (getR s (getR s i 1).2.1 2).1 > 256
          · rw [if_pos c4] at h; simp at h
          rw [if_neg c4] at h
          obtain ⟨⟨e, l, p⟩, hl, h⟩ := Option.bind_eq_some_iff.mp h
          dsimp only at h
          by_cases c5 : e = 0
          · subst c5
            rw [if_pos rfl] at h
            simp only [Option.some.injEq, Prod.mk.injEq, true_and] at h
            have := list_le (fun q => valR mk no k s q (d + 1)) (fun i x q h0 h => val_more k s i (d + 1) x q h0 h) _ _ l p (by omega) hl
            omega
          · rw [if_neg c5] at h
            simp only [Option.some.injEq, Prod.mk.injEq] at h
            exact absurd h.1 c5
        · rw [if_neg c3] at h
          simp only [Option.some.injEq, Prod.mk.injEq] at h
          exact absurd h.1 c3
      rw [if_neg k3] at h
      simp at h
    · rw [if_neg c1] at h
      simp only [Option.some.injEq, Prod.mk.injEq] at h
      exact absurd h.1 c1
/-- what is read of a text is read of its front, if it lies there; else the front is too short -/
theorem val_cut : ∀ (k : Nat) (S Q : ByteArray) (i d : Int) (x : V) (q : Int), 0 ≤ i → i ≤ S.size → valR mk no k (S ++ Q) i d = some (0, x, q) → (q ≤ S.size → valR mk no k S i d = some (0, x, q)) ∧ (S.size < q → valR mk no k S i d = some (3, no, 0))
  | 0, _, _, _, _, _, _, _, _, h => by simp [valR] at h
  | k + 1, S, Q, i, d, x, q, h0, h1, h => by
    have hmore := val_more (k + 1) (S ++ Q) i d x q h0 h
    simp only [valR] at h ⊢
    by_cases c1 : (getR (S ++ Q) i 1).2.2 = 0
    · have b := Rr.gbounds _ _ _ c1
      have g := getR_cut S Q i 1 c1
      rw [if_pos c1] at h
      by_cases hs : i + 1 ≤ S.size
      · rw [g.1 hs, if_pos c1]
        by_cases k1 : (getR (S ++ Q) i 1).1 = 1
        · rw [if_pos k1] at h ⊢
          by_cases c2 : (intR (S ++ Q) (getR (S ++ Q) i 1).2.1).1 = 0
          · rw [if_pos c2] at h
            have gi := intR_cut S Q (getR (S ++ Q) i 1).2.1 c2 (by omega)
            simp only [Option.some.injEq, Prod.mk.injEq, true_and] at h
            refine ⟨fun hq => ?_, fun hq => ?_⟩
            · rw [gi.2.1 (by omega), if_pos c2, ← h.1, ← h.2]
            · rw [if_neg (by rw [gi.2.2 (by omega)]; decide), gi.2.2 (by omega)]
          · rw [if_neg c2] at h
            simp only [Option.some.injEq, Prod.mk.injEq] at h
            exact absurd h.1 c2
        rw [if_neg k1] at h ⊢
        by_cases k2 : (getR (S ++ Q) i 1).1 = 2
        · rw [if_pos k2] at h ⊢
          by_cases c2 : (gtextR (S ++ Q) (getR (S ++ Q) i 1).2.1).2.2 = 0
          · rw [if_pos c2] at h
            have gi := gtextR_cut S Q (getR (S ++ Q) i 1).2.1 c2
            by_cases c3 : ((gtextR (S ++ Q) (getR (S ++ Q) i 1).2.1).1.size : Int) > 4096
            · rw [if_pos c3] at h; simp at h
            rw [if_neg c3] at h
            simp only [Option.some.injEq, Prod.mk.injEq, true_and] at h
            refine ⟨fun hq => ?_, fun hq => ?_⟩
            · rw [gi.2.1 (by omega), if_pos c2, if_neg c3, ← h.1, ← h.2]
            · rw [if_neg (by rw [gi.2.2 (by omega) (by omega)]; decide), gi.2.2 (by omega) (by omega)]
          · rw [if_neg c2] at h
            simp only [Option.some.injEq, Prod.mk.injEq] at h
            exact absurd h.1 c2
        rw [if_neg k2] at h ⊢
        by_cases k3 : (getR (S ++ Q) i 1).1 = 3
        · rw [if_pos k3] at h ⊢
          by_cases c2 : d ≥ 8
          · rw [if_pos c2] at h; simp at h
          rw [if_neg c2] at h ⊢
          by_cases c3 : (getR (S ++ Q) (getR (S ++ Q) i 1).2.1 2).2.2 = 0
          · rw [if_pos c3] at h
            have b2 := Rr.gbounds _ _ _ c3
            have g2 := getR_cut S Q _ _ c3
            by_cases c4 : (getR (S ++ Q) (getR (S ++ Q) i 1).2.1 2).1 > 256
            · rw [if_pos c4] at h; simp at h
            rw [if_neg c4] at h
            obtain ⟨⟨e, l, p⟩, hl, h⟩ := Option.bind_eq_some_iff.mp h
            dsimp only at h
            by_cases c5 : e = 0
            · subst c5
              rw [if_pos rfl] at h
              simp only [Option.some.injEq, Prod.mk.injEq, true_and] at h
              have hle := list_le (fun q => valR mk no k (S ++ Q) q (d + 1)) (fun i x q h0 h => val_more k (S ++ Q) i (d + 1) x q h0 h) _ _ l p (by omega) hl
              by_cases hs2 : (getR (S ++ Q) i 1).2.1 + 2 ≤ S.size
              · rw [g2.1 hs2, if_pos c3, if_neg c4]
                have gl := list_cut S (fun q => valR mk no k (S ++ Q) q (d + 1)) (fun q => valR mk no k S q (d + 1)) (fun i x q h0 h1 h => ⟨val_more k (S ++ Q) i (d + 1) x q h0 h, val_cut k S Q i (d + 1) x q h0 h1 h⟩) (fun i x q h0 h => val_more k (S ++ Q) i (d + 1) x q h0 h) _ _ l p (by omega) (by omega) hl
                refine ⟨fun hq => ?_, fun hq => ?_⟩
                · rw [gl.2.1 (by omega), Option.bind_some]
                  dsimp only
                  rw [if_pos rfl, ← h.1, ← h.2]
                · obtain ⟨l', hl'⟩ := gl.2.2 (by omega)
                  rw [hl', Option.bind_some]
                  rfl
              · rw [g2.2 (by omega) (by omega)]
                exact ⟨fun hq => by omega, fun hq => rfl⟩
            · rw [if_neg c5] at h
              simp only [Option.some.injEq, Prod.mk.injEq] at h
              exact absurd h.1 c5
          · rw [if_neg c3] at h
            simp only [Option.some.injEq, Prod.mk.injEq] at h
            exact absurd h.1 c3
        rw [if_neg k3] at h
        simp at h
      · rw [g.2 (by omega) h1]
        exact ⟨fun hq => by omega, fun hq => rfl⟩
    · rw [if_neg c1] at h
      simp only [Option.some.injEq, Prod.mk.injEq] at h
      exact absurd h.1 c1
end Go.Proofs.Ytjicfkmpgogppaa.Co
