/-
  Bytes that are read as a value are just its bytes; what is read back is alike.
-/
import Derived.Test.YtjicfkmpgogppaaCut
import Derived.Test.YtjicfkmpgogppaaVa
namespace Go.Proofs.Ytjicfkmpgogppaa.Co
set_option linter.unusedVariables false
set_option linter.unusedSimpArgs false
open Go Go.RowKit Go.Proofs.Ytjicfkmpgogppaa.Plain Go.Proofs.Ytjicfkmpgogppaa.Words Go.Proofs.Ytjicfkmpgogppaa.Vr Go.Proofs.Ytjicfkmpgogppaa.Vs Go.Proofs.Ytjicfkmpgogppaa.Pk Go.Proofs.Ytjicfkmpgogppaa.Pv Go.Proofs.Ytjicfkmpgogppaa.PO Go.Proofs.YtjicfkmpgogppaaW.PrintWords Go.Proofs.YtjicfkmpgogppaaW.PrintLast Go.Proofs.YtjicfkmpgogppaaW.PrintMore
theorem putVs_ok : ∀ (l : List V) (d : Int), (putVs l d).2 = 0 → ∀ x ∈ l, (putV x d).2 = 0
  | [], _, _, x, h => by cases h
  | y :: r, d, he, x, h => by
    by_cases c : (putV y d).2 = 0
    · have hP : putVs (y :: r) d = ((putV y d).1 ++ (putVs r d).1, (putVs r d).2) := by simp only [putVs]; rw [if_pos c]
      rw [hP] at he
      rcases List.mem_cons.mp h with rfl | h
      · exact c
      · exact putVs_ok r d he x h
    · have hP : putVs (y :: r) d = ((putV y d).1, (putV y d).2) := by simp only [putVs]; rw [if_neg c]
      rw [hP] at he; exact absurd he c
theorem norms_len : ∀ l : List V, (norms l).length = l.length
  | [] => rfl
  | x :: l => by simp only [norms, List.length_cons, norms_len l]
theorem eq_norms : ∀ l : List V, (∀ x ∈ l, Eq.eqV x (norm x) = true) → Eq.eqVs l (norms l) = true
  | [], _ => rfl
  | x :: l, h => by
    simp only [norms, Eq.eqVs]
    rw [if_pos (h x (by simp))]
    exact eq_norms l (fun y hy => h y (by simp [hy]))
theorem eq_norm : ∀ (x : V) (d : Int), (putV x d).2 = 0 → Eq.eqV x (norm x) = true := by
  refine V_ind (fun a b c l ih d he => ?_)
  by_cases c0 : a = 0
  · simp only [norm, if_pos c0, Eq.eqV]
    simp
  by_cases c1 : a = 1
  · subst c1
    simp only [norm, Eq.eqV]
    simp
  by_cases c2 : a = 2
  · by_cases c3 : (l.length : Int) > 256
    · have hP : putV ⟨a, b, c, l⟩ d = (⟨#[]⟩, 5) := by simp only [putV]; rw [if_neg c0, if_neg c1, if_pos c2, if_pos c3]
      rw [hP] at he; exact absurd he (by decide)
    by_cases c4 : d ≥ 8
    · have hP : putV ⟨a, b, c, l⟩ d = (⟨#[]⟩, 5) := by simp only [putV]; rw [if_neg c0, if_neg c1, if_pos c2, if_neg c3, if_pos c4]
      rw [hP] at he; exact absurd he (by decide)
    have hP : putV ⟨a, b, c, l⟩ d = (headB l.length (putVs l (d + 1)).1, (putVs l (d + 1)).2) := by simp only [putV]; rw [if_neg c0, if_neg c1, if_pos c2, if_neg c3, if_neg c4]
    rw [hP] at he
    have hl := eq_norms l (fun x hx => ih x hx (d + 1) (putVs_ok l (d + 1) he x hx))
    subst c2
    have hn : norm ⟨2, b, c, l⟩ = ⟨2, 0, ⟨#[]⟩, norms l⟩ := by simp [norm]
    rw [hn]
    simp only [Eq.eqV]
    rw [if_pos trivial, if_neg (by decide), if_neg (by decide), if_pos trivial, if_pos (norms_len l).symm]
    exact hl
  · have hP : putV ⟨a, b, c, l⟩ d = (⟨#[]⟩, 2) := by simp only [putV]; rw [if_neg c0, if_neg c1, if_neg c2]
    rw [hP] at he; exact absurd he (by decide)
/-! #### bytes that are read -/
theorem ext_join (s : ByteArray) (i j k : Nat) (h1 : i ≤ j) (h2 : j ≤ k) (h3 : k ≤ s.size) : s.extract i j ++ s.extract j k = s.extract i k := by
  apply ByteArray.ext
  rw [ByteArray.data_append, ByteArray.data_extract, ByteArray.data_extract, ByteArray.data_extract]
  apply Array.ext'
  simp only [Array.toList_append, Array.toList_extract, List.extract_eq_take_drop]
  have e1 : k - i = (j - i) + (k - j) := by omega
  have e2 : s.data.toList.drop j = (s.data.toList.drop i).drop (j - i) := by rw [List.drop_drop]; congr 1; omega
  rw [e1, e2, List.take_add]
theorem ext_one (s : ByteArray) (m : Nat) (h : m < s.size) : s.extract m (m + 1) = strOfNums [bt s m] := by
  apply ByteArray.ext
  rw [ByteArray.data_extract]
  apply Array.ext'
  have hl : s.data.toList.length = s.size := Array.length_toList
  simp only [Array.toList_extract, List.extract_eq_take_drop]
  rw [List.drop_eq_getElem_cons (by omega), show m + 1 - m = 1 by omega]
  have hb : bt s m = ((s.data.toList.getD m 0).toNat : Int) := bt_data s m h
  rw [List.getD_eq_getElem?_getD, List.getElem?_eq_getElem (by omega), Option.getD_some] at hb
  simp [strOfNums, hb]
theorem ext_nil (s : ByteArray) (i : Nat) : s.extract i i = (⟨#[]⟩ : ByteArray) := by
  apply ByteArray.ext
  rw [ByteArray.data_extract]
  simp
  exact Nat.min_le_left _ _
theorem ext_size (s : ByteArray) (i j : Nat) (h : j ≤ s.size) : (s.extract i j).size = j - i := by
  simp [ByteArray.size_extract]; omega
theorem puts_gets (s : ByteArray) (a : Nat) : ∀ n : Nat, a + n ≤ s.size → strOfNums (puts n (gets s a n)) = s.extract a (a + n)
  | 0, _ => by rw [Nat.add_zero, ext_nil]; rfl
  | n + 1, h => by
    have hb := bt_range s ((a : Int) + n)
    have e1 : gets s a (n + 1) / 256 = gets s a n := by simp only [gets]; omega
    have e2 : gets s a (n + 1) % 256 = bt s ((a : Int) + n) := by simp only [gets]; omega
    have e3 : puts (n + 1) (gets s a (n + 1)) = puts n (gets s a (n + 1) / 256) ++ [gets s a (n + 1) % 256] := rfl
    rw [e3, e1, e2, strOfNums_append, puts_gets s a n (by omega)]
    have e4 : (a : Int) + n = ((a + n : Nat) : Int) := by omega
    rw [e4, ← ext_one s (a + n) (by omega), ext_join s a (a + n) (a + n + 1) (by omega) (by omega) (by omega)]
    rfl
theorem put_gets (s : ByteArray) (a w : Int) (h : (getR s a w).2.2 = 0) : put w (getR s a w).1 = s.extract a.toNat (a + w).toNat := by
  have b := Rr.gbounds _ _ _ h
  obtain ⟨m, hm⟩ : ∃ m : Nat, a = m := ⟨a.toNat, by omega⟩
  obtain ⟨n, hn⟩ : ∃ n : Nat, w = n := ⟨w.toNat, by omega⟩
  subst hm
  subst hn
  rw [b.2.2.2.2.2.2.2]
  unfold put
  rw [show (max 0 (min (n : Int) 8)).toNat = n by omega, Int.toNat_natCast, puts_gets s m n (by omega)]
  congr 1
theorem fold_unfold {n : Int} (h0 : 0 ≤ n) (_h1 : n < 18446744073709551616) : foldR (if n % 2 = 0 then n / 2 else -(n / 2) - 1) = n := by
  unfold foldR
  by_cases c : n % 2 = 0
  · rw [if_pos c, if_pos (by omega)]; omega
  · rw [if_neg c, if_neg (by omega)]; omega
theorem int_back (s : ByteArray) (i : Int) (h : (intR s i).1 = 0) : put 1 (wdl 9 (foldR (intR s i).2.1)) ++ put (wdl 9 (foldR (intR s i).2.1)) (foldR (intR s i).2.1) = s.extract i.toNat (intR s i).2.2.toNat ∧ (-9223372036854775808 ≤ (intR s i).2.1 ∧ (intR s i).2.1 ≤ 9223372036854775807) ∧ i + 1 ≤ (intR s i).2.2 ∧ (intR s i).2.2 ≤ s.size ∧ 0 ≤ i := by
  by_cases c1 : (getR s i 1).2.2 = 0
  · have b := Rr.gbounds _ _ _ c1
    have p1 := put_gets s i 1 c1
    by_cases c2 : (getR s i 1).1 > 8
    · exfalso
      unfold intR at h
      rw [if_pos c1, if_pos c2] at h
      exact absurd h (by decide)
    by_cases c3 : (getR s i 1).1 = 0
    · have e : intR s i = (0, 0, (getR s i 1).2.1) := by
        unfold intR
        rw [if_pos c1, if_neg c2, if_pos c3]
      rw [e]
      dsimp only
      have f0 : foldR 0 = 0 := rfl
      rw [f0, wdl_zero]
      rw [c3] at p1
      refine ⟨?_, by omega, by omega, by omega, by omega⟩
      have z : put ((0 : Nat) : Int) 0 = (⟨#[]⟩ : ByteArray) := rfl
      rw [z, show ((0 : Nat) : Int) = 0 from rfl, p1, b.2.2.2.2.2.2.1]
      exact ByteArray.append_empty
    by_cases c4 : (getR s (getR s i 1).2.1 (getR s i 1).1).2.2 = 0
    · have b2 := Rr.gbounds _ _ _ c4
      have p2 := put_gets s _ _ c4
      by_cases c5 : (getR s (getR s i 1).2.1 (getR s i 1).1).1 / 2 ^ (8 * ((getR s i 1).1 - 1)).toNat = 0
      · exfalso
        unfold intR at h
        rw [if_pos c1, if_neg c2, if_neg c3, if_pos c4, if_pos c5] at h
        exact absurd h (by decide)
      have e : intR s i = (0, if (getR s (getR s i 1).2.1 (getR s i 1).1).1 % 2 = 0 then (getR s (getR s i 1).2.1 (getR s i 1).1).1 / 2 else -((getR s (getR s i 1).2.1 (getR s i 1).1).1 / 2) - 1, (getR s (getR s i 1).2.1 (getR s i 1).1).2.1) := by
        unfold intR
        rw [if_pos c1, if_neg c2, if_neg c3, if_pos c4, if_neg c5]
      rw [e]
      dsimp only
      rw [fold_unfold b2.1 b2.2.1]
      have g := gets_lt s (getR s i 1).2.1 (getR s i 1).1.toNat
      obtain ⟨m, hm⟩ : ∃ m : Nat, (getR s i 1).1 = ((m + 1 : Nat) : Int) := ⟨((getR s i 1).1 - 1).toNat, by omega⟩
      have hw : wdl 9 (getR s (getR s i 1).2.1 (getR s i 1).1).1 = m + 1 := by
        refine wdl_eq m 9 _ ?_ ?_ (by omega)
        · have hp : (0 : Int) < 256 ^ m := Int.pow_pos (by decide)
          rw [hm] at c5
          rw [show (8 * (((m + 1 : Nat) : Int) - 1)) = 8 * (m : Int) by omega, pow8] at c5
          rw [← hm] at c5
          rcases Int.lt_or_le (getR s (getR s i 1).2.1 (getR s i 1).1).1 (256 ^ m) with hlt | hle
          · exact absurd (Int.ediv_eq_zero_of_lt b2.1 hlt) c5
          · exact hle
        · rw [b2.2.2.2.2.2.2.2]
          have : (getR s i 1).1.toNat = m + 1 := by omega
          rw [this] at g ⊢
          exact g.2
      rw [← b.2.2.2.2.2.2.1] at p1
      rw [hw, ← hm, p1, p2, b2.2.2.2.2.2.2.1]
      refine ⟨?_, ?_, by omega, by omega, by omega⟩
      · exact ext_join s _ _ _ (by omega) (by omega) (by omega)
      · split <;> omega
    · exfalso
      unfold intR at h
      rw [if_pos c1, if_neg c2, if_neg c3, if_neg c4] at h
      exact absurd h c4
  · exfalso
    unfold intR at h
    rw [if_neg c1] at h
    exact absurd h c1
theorem text_back (s : ByteArray) (i : Int) (h : (gtextR s i).2.2 = 0) : put 2 ((gtextR s i).1.size : Int) ++ (gtextR s i).1 = s.extract i.toNat (gtextR s i).2.1.toNat ∧ i + 2 ≤ (gtextR s i).2.1 ∧ (gtextR s i).2.1 ≤ s.size ∧ 0 ≤ i := by
  by_cases c1 : (getR s i 2).2.2 = 0
  · have b := Rr.gbounds _ _ _ c1
    have p1 := put_gets s i 2 c1
    by_cases c2 : (s.size : Int) - (getR s i 2).2.1 < (getR s i 2).1
    · exfalso
      unfold gtextR at h
      rw [if_pos c1, if_pos c2] at h
      exact absurd h (by decide)
    have e : gtextR s i = (s.extract (getR s i 2).2.1.toNat ((getR s i 2).2.1 + (getR s i 2).1).toNat, (getR s i 2).2.1 + (getR s i 2).1, 0) := by
      unfold gtextR
      rw [if_pos c1, if_neg c2]
    rw [e]
    dsimp only
    have hz : ((s.extract (getR s i 2).2.1.toNat ((getR s i 2).2.1 + (getR s i 2).1).toNat).size : Int) = (getR s i 2).1 := by
      rw [ext_size _ _ _ (by omega)]; omega
    rw [hz, p1, b.2.2.2.2.2.2.1]
    exact ⟨ext_join s _ _ _ (by omega) (by omega) (by omega), by omega, by omega, by omega⟩
  · exfalso
    unfold gtextR at h
    rw [if_neg c1] at h
    exact absurd h c1
theorem lists_back (s : ByteArray) (d : Int) (f : Int → Option (Int × V × Int)) (hf : ∀ (i : Int) x q, 0 ≤ i → f i = some (0, x, q) → i ≤ q ∧ q ≤ s.size ∧ putV x d = (s.extract i.toNat q.toNat, 0) ∧ Wf x) :
    ∀ (n : Nat) (i : Int) (l : List V) (q : Int), 0 ≤ i → i ≤ s.size → listR f n i = some (0, l, q) → l.length = n ∧ i ≤ q ∧ q ≤ s.size ∧ putVs l d = (s.extract i.toNat q.toNat, 0) ∧ Wfs l
  | 0, i, l, q, h0, h1, h => by
    simp only [listR, Option.some.injEq, Prod.mk.injEq, true_and] at h
    obtain ⟨rfl, rfl⟩ := h
    refine ⟨rfl, Int.le_refl _, h1, ?_, by simp [Wfs]⟩
    simp only [putVs]
    rw [ext_nil]
  | n + 1, i, l, q, h0, h1, h => by
    simp only [listR] at h
    obtain ⟨⟨e, x, p⟩, hx, h⟩ := Option.bind_eq_some_iff.mp h
    dsimp only at h
    by_cases c : e = 0
    · subst c
      rw [if_pos rfl] at h
      obtain ⟨⟨e2, l2, q2⟩, hy, h⟩ := Option.bind_eq_some_iff.mp h
      simp only [Option.some.injEq, Prod.mk.injEq] at h
      obtain ⟨rfl, rfl, rfl⟩ := h
      obtain ⟨g1, g2, g3, g4⟩ := hf i x p h0 hx
      obtain ⟨k1, k2, k3, k4, k5⟩ := lists_back s d f hf n p l2 q2 (by omega) (by omega) hy
      refine ⟨by simp [k1], by omega, k3, ?_, by simp only [Wfs]; exact ⟨g4, k5⟩⟩
      have hP : putVs (x :: l2) d = ((putV x d).1 ++ (putVs l2 d).1, (putVs l2 d).2) := by simp only [putVs]; rw [if_pos (by rw [g3])]
      rw [hP, g3, k4]
      dsimp only
      rw [ext_join s _ _ _ (by omega) (by omega) (by omega)]
    · rw [if_neg c] at h
      simp only [Option.some.injEq, Prod.mk.injEq] at h
      exact absurd h.1 c
theorem vals_back : ∀ (k : Nat) (s : ByteArray) (i d : Int) (x : V) (q : Int), 0 ≤ i → valR mk no k s i d = some (0, x, q) → i ≤ q ∧ q ≤ s.size ∧ putV x d = (s.extract i.toNat q.toNat, 0) ∧ Wf x
  | 0, _, _, _, _, _, _, h => by simp [valR] at h
  | k + 1, s, i, d, x, q, h0, h => by
    simp only [valR] at h
    by_cases c1 : (getR s i 1).2.2 = 0
    · rw [if_pos c1] at h
      have b := Rr.gbounds _ _ _ c1
      have p1 := put_gets s i 1 c1
      by_cases k1 : (getR s i 1).1 = 1
      · rw [if_pos k1] at h
        rw [k1] at p1
        by_cases c2 : (intR s (getR s i 1).2.1).1 = 0
        · rw [if_pos c2] at h
          obtain ⟨g1, g2, g3, g4, g5⟩ := int_back s _ c2
          simp only [Option.some.injEq, Prod.mk.injEq, true_and] at h
          obtain ⟨rfl, rfl⟩ := h
          refine ⟨by omega, g4, ?_, by simp only [Wf, Wfs]; exact ⟨g2, trivial⟩⟩
          have hP : putV ⟨0, (intR s (getR s i 1).2.1).2.1, ⟨#[]⟩, []⟩ d = (intB (intR s (getR s i 1).2.1).2.1, 0) := by simp only [putV]; rw [if_pos trivial]
          rw [hP]
          have e0 : intB (intR s (getR s i 1).2.1).2.1 = put 1 1 ++ (put 1 (wdl 9 (foldR (intR s (getR s i 1).2.1).2.1)) ++ put (wdl 9 (foldR (intR s (getR s i 1).2.1).2.1)) (foldR (intR s (getR s i 1).2.1).2.1)) := by unfold intB; rw [ByteArray.append_assoc]; rfl
          rw [e0, g1, p1, b.2.2.2.2.2.2.1]
          rw [b.2.2.2.2.2.2.1] at g3 g4
          rw [ext_join s _ _ _ (by omega) (by omega) (by omega)]
        · rw [if_neg c2] at h
          simp only [Option.some.injEq, Prod.mk.injEq] at h
          exact absurd h.1 c2
      rw [if_neg k1] at h
      by_cases k2 : (getR s i 1).1 = 2
      · rw [if_pos k2] at h
        rw [k2] at p1
        by_cases c2 : (gtextR s (getR s i 1).2.1).2.2 = 0
        · rw [if_pos c2] at h
          obtain ⟨g1, g2, g3, g4⟩ := text_back s _ c2
          by_cases c3 : ((gtextR s (getR s i 1).2.1).1.size : Int) > 4096
          · rw [if_pos c3] at h; simp at h
          rw [if_neg c3] at h
          simp only [Option.some.injEq, Prod.mk.injEq, true_and] at h
          obtain ⟨rfl, rfl⟩ := h
          refine ⟨by omega, g3, ?_, by simp [Wf, Wfs]⟩
          have ht : Go.Proofs.Ytjicfkmpgogppaa.WordsA.textR (gtextR s (getR s i 1).2.1).1 = (put 2 (gtextR s (getR s i 1).2.1).1.size ++ (gtextR s (getR s i 1).2.1).1, 0) := by unfold Go.Proofs.Ytjicfkmpgogppaa.WordsA.textR; rw [if_neg (by omega)]
          have hP : putV ⟨1, 0, (gtextR s (getR s i 1).2.1).1, []⟩ d = ((⟨#[2]⟩ : ByteArray) ++ (Go.Proofs.Ytjicfkmpgogppaa.WordsA.textR (gtextR s (getR s i 1).2.1).1).1, 0) := by simp only [putV]; rw [if_neg (by decide), if_pos trivial, if_neg c3]
          rw [hP, ht]
          dsimp only
          rw [g1, show (⟨#[2]⟩ : ByteArray) = put 1 2 from rfl, p1, b.2.2.2.2.2.2.1]
          rw [b.2.2.2.2.2.2.1] at g2 g3
          rw [ext_join s _ _ _ (by omega) (by omega) (by omega)]
        · rw [if_neg c2] at h
          simp only [Option.some.injEq, Prod.mk.injEq] at h
          exact absurd h.1 c2
      rw [if_neg k2] at h
      by_cases k3 : (getR s i 1).1 = 3
      · rw [if_pos k3] at h
        rw [k3] at p1
        by_cases c2 : d ≥ 8
        · rw [if_pos c2] at h; simp at h
        rw [if_neg c2] at h
        by_cases c3 : (getR s (getR s i 1).2.1 2).2.2 = 0
        · rw [if_pos c3] at h
          have b2 := Rr.gbounds _ _ _ c3
          have p2 := put_gets s _ _ c3
          by_cases c4 : (getR s (getR s i 1).2.1 2).1 > 256
          · rw [if_pos c4] at h; simp at h
          rw [if_neg c4] at h
          obtain ⟨⟨e, l, p⟩, hl, h⟩ := Option.bind_eq_some_iff.mp h
          dsimp only at h
          by_cases c5 : e = 0
          · subst c5
            rw [if_pos rfl] at h
            simp only [Option.some.injEq, Prod.mk.injEq, true_and] at h
            obtain ⟨rfl, rfl⟩ := h
            obtain ⟨g1, g2, g3, g4, g5⟩ := lists_back s (d + 1) (fun q => valR mk no k s q (d + 1)) (fun i x q h0 h => vals_back k s i (d + 1) x q h0 h) _ _ l p (by omega) (by omega) hl
            have hn : (l.length : Int) = (getR s (getR s i 1).2.1 2).1 := by omega
            refine ⟨by omega, g3, ?_, by simp only [Wf]; exact ⟨by omega, g5⟩⟩
            have hP : putV ⟨2, 0, ⟨#[]⟩, l⟩ d = (headB l.length (putVs l (d + 1)).1, (putVs l (d + 1)).2) := by simp only [putV]; rw [if_neg (by decide), if_neg (by decide), if_pos trivial, if_neg (by omega), if_neg c2]
            rw [hP, g4]
            dsimp only
            unfold headB
            rw [hn, p2, show (⟨#[3]⟩ : ByteArray) = put 1 3 from rfl, p1, b2.2.2.2.2.2.2.1, b.2.2.2.2.2.2.1]
            rw [b2.2.2.2.2.2.2.1, b.2.2.2.2.2.2.1] at g2
            rw [ext_join s _ _ _ (by omega) (by omega) (by omega), ext_join s _ _ _ (by omega) (by omega) (by omega)]
          · rw [if_neg c5] at h
            simp only [Option.some.injEq, Prod.mk.injEq] at h
            exact absurd h.1 c5
        · rw [if_neg c3] at h
          simp only [Option.some.injEq, Prod.mk.injEq] at h
          exact absurd h.1 c3
      rw [if_neg k3] at h
      simp at h
    · rw [if_neg c1] at h
      simp only [Option.some.injEq, Prod.mk.injEq] at h
      exact absurd h.1 c1
end Go.Proofs.Ytjicfkmpgogppaa.Co
