/- Of all bodies and noughts: framed one behind the other they are read back; and the fixed example. No condition beyond the statement's own. -/
import Derived.Test.YtfccgiccllnkkaaFrameSeq
import Derived.Test.YtfccgiccllnkkaaPXx8
namespace Go.Proofs.Ytfccgiccllnkkaa.Pure
set_option linter.unusedVariables false
set_option linter.unusedSimpArgs false
open Go Go.RowKit Go.Proofs.Ytfccgiccllnkkaa.Plain Go.Proofs.Ytfccgiccllnkkaa.Words Go.Proofs.Ytfccgiccllnkkaa.PX Go.Proofs.YtfccgiccllnkkaaW.PrintWords Go.Proofs.YtfccgiccllnkkaaW.PrintLast Go.Proofs.YtfccgiccllnkkaaW.PrintMore
theorem strs_zeros (n : Nat) : (strOfNums (List.replicate n 0)).size = n := by rw [size_strOfNums, List.length_replicate]
theorem zeros_at (A : ByteArray) (n : Nat) : (frameG (A ++ strOfNums (List.replicate n 0)) A.size).2.2 ≠ 0 := by
  have hz : (A ++ strOfNums (List.replicate n 0)).size = A.size + n := by rw [ByteArray.size_append, strs_zeros]
  unfold frameG
  by_cases h2 : (getR (A ++ strOfNums (List.replicate n 0)) A.size 2).2.2 = 0
  · obtain ⟨a0, a1, e, g0, g1⟩ := getR2 _ _ h2
    have b : ∀ i : Nat, i < n → bt (A ++ strOfNums (List.replicate n 0)) ((A.size : Int) + i) = 0 := by
      intro i hi
      rw [bt_right _ _ _ (by rw [strs_zeros]; exact hi), bt_nums _ _ (by simpa using hi) (fun x hx => by rw [(List.mem_replicate.1 hx).2]; omega)]
      rw [List.getD_eq_getElem?_getD, List.getElem?_replicate, if_pos hi]; rfl
    have g : gets (A ++ strOfNums (List.replicate n 0)) A.size 2 = 0 := by
      show (0 * 256 + bt (A ++ strOfNums (List.replicate n 0)) ((A.size : Int) + ((0 : Nat) : Int))) * 256 + bt (A ++ strOfNums (List.replicate n 0)) ((A.size : Int) + ((1 : Nat) : Int)) = 0
      rw [b 0 (by omega), b 1 (by omega)]; rfl
    rw [if_pos h2, if_pos g]; simp
  · rw [if_neg h2]; exact h2
theorem size_encF (bs : List ByteArray) (h : ∀ b ∈ bs, valid b = true) : (encF bs).size ≤ 4102 * bs.length := by
  induction bs with
  | nil => exact Nat.le_refl _
  | cons b r ih =>
    have := ih (fun x hx => h x (List.mem_cons_of_mem _ hx))
    have hv := of_decide_eq_true (h b (List.mem_cons_self ..))
    simp only [encF, ByteArray.size_append, size_frameB, List.length_cons]
    omega
theorem encF_snoc (bs : List ByteArray) (b : ByteArray) : encF (bs ++ [b]) = encF bs ++ frameB b := by
  induction bs with
  | nil => simp [encF]
  | cons x r ih => simp only [List.cons_append, encF, ih, ByteArray.append_assoc]
theorem eq_loop (xs : List ByteArray) (hx : xs.length ≤ 140737488351232) (d : Nat) : ∀ (k i : Nat), i + d = xs.length → precinctlaw03_FrameBack.l1 (k + d + 1) xs xs (xs.length : Int) i = some true := by
  induction d with
  | zero =>
    intro k i hi
    rw [show k + 0 + 1 = k + 1 by omega, precinctlaw03_FrameBack.l1, if_neg (by omega)]
  | succ d ih =>
    intro k i hi
    rw [show k + (d + 1) + 1 = (k + d + 1) + 1 by omega, precinctlaw03_FrameBack.l1, if_pos (by omega), if_pos (by omega), if_pos (by omega), if_pos (by omega), if_pos rfl, w64 (by omega) (by omega)]
    exact ih k (i + 1) (by omega)
theorem back_end (n : Int) (fb : List ByteArray) (L : List ByteArray) (i : Int) (hv : ∀ b ∈ fb, valid b = true) (hl : fb.length ≤ 20) (hi : ¬ i < (L.length : Int)) (k : Nat) (hk : 60000 ≤ k) :
    precinctlaw03_FrameBack.l0 (k + 1) n (encF fb) fb L (L.length : Int) i = some true := by
  have m0 : 0 ≤ mx 0 n := by unfold mx; split <;> omega
  have hsz := size_encF fb hv
  have z := strs_zeros ((mx 0 n) % 9 : Int).toNat
  rw [precinctlaw03_FrameBack.l0, if_neg hi, if_pos (by omega), if_pos (by omega), Option.bind_some, if_pos (by omega)]
  rw [fall_some fb (strOfNums (List.replicate ((mx 0 n) % 9 : Int).toNat 0)) rfl hv (by omega) (by rw [ByteArray.size_append]; omega) (zeros_at _ _) k (by omega)]
  rw [Option.bind_some, fwakes_some _ (by omega), Option.bind_some, if_pos rfl, if_pos rfl]
  have hb : (((encF fb).size : Int) != ((encF fb).size : Int)) = false := by simp
  obtain ⟨k, rfl⟩ : ∃ m, k = m + 1 := ⟨k - 1, by omega⟩
  rw [hb, precinctlaw03_FrameBack.j2, if_neg (by simp)]
  have e := eq_loop fb (by omega) fb.length (k - fb.length - 1) 0 (by omega)
  rw [show k - fb.length - 1 + fb.length + 1 = k by omega] at e
  exact e
theorem back_loop (n : Int) (L : List ByteArray) (hL : L.length ≤ 20) (hw : ∀ x ∈ L, x.size ≤ maxLen) (d : Nat) : ∀ (i : Nat) (fb : List ByteArray) (k : Nat), i + d = L.length → (∀ b ∈ fb, valid b = true) → fb.length ≤ i → 60000 + 2 * d ≤ k →
    precinctlaw03_FrameBack.l0 (k + 1) n (encF fb) fb L (L.length : Int) i = some true := by
  induction d with
  | zero => intro i fb k hi hv hf hk; exact back_end n fb L i hv (by omega) (by omega) k (by omega)
  | succ d ih =>
    intro i fb k hi hv hf hk
    obtain ⟨k, rfl⟩ : ∃ m, k = m + 2 := ⟨k - 2, by omega⟩
    have er : rdOf ByteArray.empty L (i : Int) = L.getD i ByteArray.empty := by unfold rdOf; rw [show ((i : Int)).toNat = i by omega]
    have hm := hw (L.getD i ByteArray.empty) (by rw [List.getD_eq_getElem?_getD, List.getElem?_eq_getElem (by omega)]; exact List.getElem_mem _)
    have hsz := size_encF fb hv
    generalize L.getD i ByteArray.empty = b at *
    have next : ∀ fb', (∀ b ∈ fb', valid b = true) → fb'.length ≤ i + 1 → precinctlaw03_FrameBack.l0 (k + 1) n (encF fb') fb' L (L.length : Int) (wrap64 ((i : Int) + 1)) = some true := by
      intro fb' hv' hf'
      rw [w64 (by omega) (by omega)]
      exact ih (i + 1) fb' k (by omega) hv' hf' (by omega)
    rw [precinctlaw03_FrameBack.l0, if_pos (by omega), if_pos (by omega), if_pos (by omega), er]
    unfold maxLen at hm
    by_cases h0 : b.size = 0
    · have hp : frame_Put.f (k + 2) b = some (⟨#[]⟩, 2) := by
        have := fput_some (s := b) (k + 2) (by omega) (by omega)
        rw [this]; unfold frameR; rw [if_pos h0]
      rw [hp, Option.bind_some, if_pos ((nil_size b).2 h0), precinctlaw03_FrameBack.j1]
      rw [if_neg (by simp), if_neg (by simp), if_pos (by show _ + 0 ≤ _; omega)]
      have : encF fb ++ (⟨#[]⟩ : ByteArray) = encF fb := ByteArray.append_empty
      rw [this]
      exact next fb hv (by omega)
    · have hne : ¬ b.toList = ([] : List UInt8) := fun h => h0 ((nil_size b).1 h)
      by_cases h1 : b.size ≤ 4096
      · have hp : frame_Put.f (k + 2) b = some (frameB b, 0) := by
          have := fput_some (s := b) (k + 2) (by omega) (by omega)
          rw [this]; unfold frameR; rw [if_neg h0, if_neg (by omega)]
        have hd : (((0 : Int) == 0) != decide ((b.size : Int) ≤ 4096)) = false := by rw [decide_eq_true (by omega)]; rfl
        rw [hp, Option.bind_some, if_neg hne, hd, precinctlaw03_FrameBack.j1, if_neg (by simp), if_pos rfl, if_pos (by omega), if_pos (by rw [size_frameB]; omega), ← encF_snoc]
        refine next (fb ++ [b]) ?_ (by simp; omega)
        intro x hx
        rcases List.mem_append.1 hx with hx | hx
        · exact hv x hx
        · rw [List.mem_singleton.1 hx]; unfold valid; exact decide_eq_true ⟨by omega, h1⟩
      · have hp : frame_Put.f (k + 2) b = some (⟨#[]⟩, 5) := by
          by_cases hb : b.size ≤ 140737488351232 * 4
          · have := fput_some (s := b) (k + 2) hb (by omega)
            rw [this]; unfold frameR; rw [if_neg h0, if_pos (by omega)]
          · unfold frame_Put.f
            rw [if_neg hne, if_pos (by omega)]
        have hd : (((5 : Int) == 0) != decide ((b.size : Int) ≤ 4096)) = false := by rw [decide_eq_false (by omega)]; rfl
        rw [hp, Option.bind_some, if_neg hne, hd, precinctlaw03_FrameBack.j1, if_neg (by simp), if_neg (by simp), if_pos (by show _ + 0 ≤ _; omega)]
        have : encF fb ++ (⟨#[]⟩ : ByteArray) = encF fb := ByteArray.append_empty
        rw [this]
        exact next fb hv (by omega)
theorem FrameBack : ∀ (l0 : List (ByteArray)) (a1 : Int), (∀ x ∈ l0, x.size ≤ maxLen) → l0.length ≤ maxLen → (Lit.int .i64 a1).wf = true → ∃ k, precinctlaw03_FrameBack.f k l0 a1 = some true := by
  intro l0 n hw hl hn
  refine ⟨60101, ?_⟩
  unfold precinctlaw03_FrameBack.f
  have m0 : 0 ≤ mn (l0.length : Int) 20 ∧ mn (l0.length : Int) 20 ≤ 20 ∧ mn (l0.length : Int) 20 ≤ l0.length := by unfold mn; split <;> omega
  rw [if_pos m0.1, if_pos m0.2.2]
  have hw' : ∀ x ∈ l0.take ((mn (l0.length : Int) 20) : Int).toNat, x.size ≤ maxLen := fun x hx => hw x (List.mem_of_mem_take hx)
  have n0 : (l0.take ((mn (l0.length : Int) 20) : Int).toNat).length ≤ 20 := by rw [List.length_take]; omega
  exact back_loop n _ n0 hw' (l0.take ((mn (l0.length : Int) 20) : Int).toNat).length 0 [] 60100 (by omega) (fun b hb => by cases hb) (by simp) (by omega)
end Go.Proofs.Ytfccgiccllnkkaa.Pure
