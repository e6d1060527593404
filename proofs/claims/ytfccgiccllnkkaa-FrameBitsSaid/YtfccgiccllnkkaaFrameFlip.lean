/-
  Frames with one byte of a check sum or body set to another: just those ahead are told.
-/
import Derived.Test.YtfccgiccllnkkaaFrameSeq
namespace Go.Proofs.Ytfccgiccllnkkaa.Words
set_option linter.unusedVariables false
set_option linter.unusedSimpArgs false
open Go Go.RowKit Go.Proofs.Ytfccgiccllnkkaa.Plain Go.Proofs.Ytfccgiccllnkkaa.PY Go.Proofs.YtfccgiccllnkkaaW.PrintWords Go.Proofs.YtfccgiccllnkkaaW.PrintLast Go.Proofs.YtfccgiccllnkkaaW.PrintMore
/-- a text with one byte set -/
def setB (s : ByteArray) (i : Nat) (x : Int) : ByteArray := strOfNums ((bytesOf s).set i x)
theorem strs_bytes (s : ByteArray) : strOfNums (bytesOf s) = s := by
  apply ByteArray.ext
  apply Array.ext'
  have e : (strOfNums (bytesOf s)).data.toList = (bytesOf s).map fun n => UInt8.ofNat n.toNat := rfl
  rw [e]
  unfold bytesOf
  rw [List.map_map]
  conv => rhs; rw [← List.map_id s.data.toList]
  apply List.map_congr_left
  intro b _
  simp
theorem bytesOf_append (A B : ByteArray) : bytesOf (A ++ B) = bytesOf A ++ bytesOf B := by
  unfold bytesOf; rw [data_append, List.map_append]
theorem setB_left (B C : ByteArray) (j : Nat) (x : Int) (h : j < B.size) : setB (B ++ C) j x = setB B j x ++ C := by
  unfold setB
  rw [bytesOf_append, List.set_append_left _ _ (by rw [bytesOf_length]; exact h), strOfNums_append, strs_bytes]
theorem setB_right (A B : ByteArray) (j : Nat) (x : Int) : setB (A ++ B) (A.size + j) x = A ++ setB B j x := by
  unfold setB
  rw [bytesOf_append, List.set_append_right _ _ (by rw [bytesOf_length]; omega), bytesOf_length, Nat.add_sub_cancel_left, strOfNums_append, strs_bytes]
theorem size_setB (s : ByteArray) (i : Nat) (x : Int) : (setB s i x).size = s.size := by
  unfold setB; rw [size_strOfNums, List.length_set, bytesOf_length]
theorem bytesOf_mem (s : ByteArray) : ∀ x ∈ bytesOf s, 0 ≤ x ∧ x < 256 := by
  intro x hx
  unfold bytesOf at hx
  obtain ⟨b, _, rfl⟩ := List.mem_map.1 hx
  have := UInt8.toNat_lt b
  omega
theorem set_mem (s : ByteArray) (i : Nat) {x : Int} (hx : 0 ≤ x ∧ x < 256) : ∀ y ∈ (bytesOf s).set i x, 0 ≤ y ∧ y < 256 := by
  intro y hy
  rcases List.mem_or_eq_of_mem_set hy with h | h
  · exact bytesOf_mem s y h
  · rw [h]; exact hx
theorem bt_same (s : ByteArray) (i : Nat) {x : Int} (h : i < s.size) (hx : 0 ≤ x ∧ x < 256) : bt (setB s i x) i = x := by
  unfold setB
  rw [bt_nums _ i (by rw [List.length_set, bytesOf_length]; exact h) (set_mem s i hx), List.getD_eq_getElem?_getD, List.getElem?_set_self (by rw [bytesOf_length]; exact h)]
  rfl
theorem bt_other (s : ByteArray) (i j : Nat) {x : Int} (h : j < s.size) (hj : j ≠ i) (hx : 0 ≤ x ∧ x < 256) : bt (setB s i x) j = bt s j := by
  unfold setB
  rw [bt_nums _ j (by rw [List.length_set, bytesOf_length]; exact h) (set_mem s i hx), List.getD_eq_getElem?_getD, List.getElem?_set_ne (Ne.symm hj), ← List.getD_eq_getElem?_getD, ← bt_nums _ j (by rw [bytesOf_length]; exact h) (bytesOf_mem s), strs_bytes]
theorem xor_left_cancel {a b c : Nat} (h : a ^^^ b = a ^^^ c) : b = c := by
  have e : a ^^^ (a ^^^ b) = a ^^^ (a ^^^ c) := by rw [h]
  rwa [← Nat.xor_assoc, ← Nat.xor_assoc, Nat.xor_self, Nat.zero_xor, Nat.zero_xor] at e
theorem far_half {a b : Nat} (ha : a < 2147483648) (hb : b < 2147483648) : a ^^^ 2197175160 ≠ b := fun e => by
  have e2 : a ^^^ b = 2197175160 := by rw [← e, ← Nat.xor_assoc, Nat.xor_self, Nat.zero_xor]
  have hl := Nat.xor_lt_two_pow (x := a) (y := b) (n := 31) (by omega) (by omega)
  omega
theorem stepN_inj {c d : Nat} (hc : c < 4294967296) (hd : d < 4294967296) (h : stepN c = stepN d) : c = d := by
  unfold stepN at h
  by_cases p : c % 2 = 1
  · by_cases q : d % 2 = 1
    · rw [if_pos p, if_pos q, Nat.xor_comm (c / 2), Nat.xor_comm (d / 2)] at h
      have := xor_left_cancel h
      omega
    · rw [if_pos p, if_neg q, Nat.xor_zero] at h
      exact absurd h (far_half (by omega) (by omega))
  · by_cases q : d % 2 = 1
    · rw [if_neg p, if_pos q, Nat.xor_zero] at h
      exact absurd h.symm (far_half (by omega) (by omega))
    · rw [if_neg p, if_neg q, Nat.xor_zero, Nat.xor_zero] at h
      omega
theorem stepsN_inj (n : Nat) : ∀ {c d : Nat}, c < 4294967296 → d < 4294967296 → stepsN n c = stepsN n d → c = d := by
  induction n with
  | zero => intro c d _ _ h; exact h
  | succ n ih => intro c d hc hd h; exact stepN_inj hc hd (ih (stepN_lt hc) (stepN_lt hd) h)
theorem bt_nat_lt (s : ByteArray) (i : Int) : (bt s i).toNat < 256 := by have := bt_range s i; omega
/-- texts that differ in one byte alone: their words are the same up to it, and never again -/
theorem sumN_split (x y : ByteArray) (j : Nat) (hs : ∀ i : Nat, i ≠ j → bt x i = bt y i) (hj : bt x j ≠ bt y j) : ∀ i : Nat, (i ≤ j → sumN x i = sumN y i) ∧ (j < i → sumN x i ≠ sumN y i) := by
  intro i
  induction i with
  | zero => exact ⟨fun _ => rfl, fun h => by omega⟩
  | succ i ih =>
    have lx := Nat.xor_lt_two_pow (n := 32) (sumN_lt x i) (show (bt x i).toNat < 2 ^ 32 by have := bt_nat_lt x i; omega)
    have ly := Nat.xor_lt_two_pow (n := 32) (sumN_lt y i) (show (bt y i).toNat < 2 ^ 32 by have := bt_nat_lt y i; omega)
    refine ⟨fun h => ?_, fun h e => ?_⟩
    · show stepsN 8 _ = stepsN 8 _
      rw [ih.1 (by omega), hs i (by omega)]
    · have e2 := stepsN_inj 8 lx ly e
      by_cases c : i = j
      · subst c
        rw [ih.1 (Nat.le_refl _)] at e2
        have e3 := xor_left_cancel e2
        have hx := bt_range x i
        have hy := bt_range y i
        exact hj (by omega)
      · rw [hs i c, Nat.xor_comm, Nat.xor_comm (sumN y i)] at e2
        exact ih.2 (by omega) (xor_left_cancel e2)
theorem sumR_ne (x y : ByteArray) (hz : x.size = y.size) (j : Nat) (hlt : j < x.size) (hs : ∀ i : Nat, i ≠ j → bt x i = bt y i) (hj : bt x j ≠ bt y j) : sumR x ≠ sumR y := by
  intro e
  have h := (sumN_split x y j hs hj x.size).2 hlt
  unfold sumR at e
  rw [← hz] at e
  omega
theorem gets_mid (A C R : ByteArray) : ∀ i, i ≤ C.size → gets (A ++ (C ++ R)) A.size i = gets C 0 i := by
  intro i
  induction i with
  | zero => intro _; rfl
  | succ i ih =>
    intro h
    rw [gets, gets, ih (by omega), bt_right _ _ _ (by rw [ByteArray.size_append]; omega), bt_left _ _ _ (by omega), Int.zero_add]
theorem gets4_inj {X Y : ByteArray} (h : gets X 0 4 = gets Y 0 4) (i : Nat) (hi : i < 4) : bt X i = bt Y i := by
  have hX : gets X 0 4 = (((0 * 256 + bt X (0 + ((0 : Nat) : Int))) * 256 + bt X (0 + ((1 : Nat) : Int))) * 256 + bt X (0 + ((2 : Nat) : Int))) * 256 + bt X (0 + ((3 : Nat) : Int)) := rfl
  have hY : gets Y 0 4 = (((0 * 256 + bt Y (0 + ((0 : Nat) : Int))) * 256 + bt Y (0 + ((1 : Nat) : Int))) * 256 + bt Y (0 + ((2 : Nat) : Int))) * 256 + bt Y (0 + ((3 : Nat) : Int)) := rfl
  simp only [Int.zero_add, Int.zero_mul] at hX hY
  have x0 := bt_range X ((0 : Nat) : Int)
  have x1 := bt_range X ((1 : Nat) : Int)
  have x2 := bt_range X ((2 : Nat) : Int)
  have x3 := bt_range X ((3 : Nat) : Int)
  have y0 := bt_range Y ((0 : Nat) : Int)
  have y1 := bt_range Y ((1 : Nat) : Int)
  have y2 := bt_range Y ((2 : Nat) : Int)
  have y3 := bt_range Y ((3 : Nat) : Int)
  rw [hX, hY] at h
  rcases (show i = 0 ∨ i = 1 ∨ i = 2 ∨ i = 3 by omega) with rfl | rfl | rfl | rfl <;> omega
theorem gets_put4 (c : Int) (h0 : 0 ≤ c) (h1 : c < 4294967296) : gets (put 4 c) 0 4 = c := by
  have e := gets_put ByteArray.empty ByteArray.empty 4 c h0 (by omega) (by omega)
  have e2 := gets_mid ByteArray.empty (put 4 c) ByteArray.empty 4 (by rw [size_put]; decide)
  rw [show (4 : Int).toNat = 4 from rfl, e2] at e
  rw [e]
  show c % 4294967296 = c
  omega
/-- a frame whose check sum isn't its body's is none -/
theorem frameG_bad (A R C b : ByteArray) (hb : valid b = true) (hC : C.size = 4) (hne : gets C 0 4 ≠ sumR (put 2 b.size ++ b)) : (frameG (A ++ (put 2 b.size ++ (C ++ (b ++ R)))) A.size).2.2 ≠ 0 := by
  have hv := of_decide_eq_true hb
  have z2 : (put 2 b.size).size = 2 := by rw [size_put]; rfl
  have s1 : A ++ (put 2 b.size ++ (C ++ (b ++ R))) = (A ++ put 2 b.size) ++ (C ++ (b ++ R)) := by simp only [ByteArray.append_assoc]
  have s2 : A ++ (put 2 b.size ++ (C ++ (b ++ R))) = (A ++ put 2 b.size ++ C) ++ (b ++ R) := by simp only [ByteArray.append_assoc]
  have hmod : (b.size : Int) % 256 ^ (2 : Int).toNat = b.size := by show (b.size : Int) % 65536 = _; omega
  have g2 : getR (A ++ (put 2 b.size ++ (C ++ (b ++ R)))) A.size 2 = ((b.size : Int), (A.size : Int) + 2, 0) := by
    rw [get_put A _ 2 b.size (by omega) (by omega) (by omega), hmod]
  have n2 : gets (A ++ (put 2 b.size ++ (C ++ (b ++ R)))) A.size 2 = b.size := by
    have e := gets_put A (C ++ (b ++ R)) 2 b.size (by omega) (by omega) (by omega)
    rw [hmod] at e
    exact e
  have n4 : gets (A ++ (put 2 b.size ++ (C ++ (b ++ R)))) ((A.size : Int) + 2) 4 = gets C 0 4 := by
    have e := gets_mid (A ++ put 2 b.size) C (b ++ R) 4 (by omega)
    rw [← s1, show (((A ++ put 2 b.size).size : Nat) : Int) = (A.size : Int) + 2 by rw [ByteArray.size_append, z2]; omega] at e
    exact e
  have c2 : (A ++ (put 2 b.size ++ (C ++ (b ++ R)))).extract (A.size : Int).toNat ((A.size : Int) + 2).toNat = put 2 b.size := by
    have e := cut_mid A (put 2 b.size) (C ++ (b ++ R))
    rw [z2] at e
    rw [show (A.size : Int).toNat = A.size by omega, show ((A.size : Int) + 2).toNat = A.size + 2 by omega]
    exact e
  have c6 : (A ++ (put 2 b.size ++ (C ++ (b ++ R)))).extract ((A.size : Int) + 6).toNat ((A.size : Int) + 6 + b.size).toNat = b := by
    have e := cut_mid (A ++ put 2 b.size ++ C) b R
    rw [← s2, ByteArray.size_append, ByteArray.size_append, z2, hC] at e
    rw [show ((A.size : Int) + 6).toNat = A.size + 2 + 4 by omega, show ((A.size : Int) + 6 + b.size).toNat = A.size + 2 + 4 + b.size by omega]
    exact e
  have hz : (A ++ (put 2 b.size ++ (C ++ (b ++ R)))).size = A.size + (6 + b.size + R.size) := by simp only [ByteArray.size_append, z2, hC]; omega
  unfold frameG
  rw [g2, n2]
  rw [if_pos rfl, if_neg (by omega), if_neg (by omega), if_neg (by omega), n4, c2, c6, if_neg hne]
  decide
theorem bt_add (A B : ByteArray) (i n : Nat) (h : i < B.size) (hn : n = A.size + i) : bt (A ++ B) (n : Nat) = bt B (i : Nat) := by
  have e : ((n : Nat) : Int) = (A.size : Int) + i := by omega
  rw [e, bt_right _ _ _ h]
/-- one byte of a frame behind its length set to another: there stands no frame -/
theorem frameG_turned (A R b : ByteArray) (hb : valid b = true) (j : Nat) (hj : j < 4 + b.size) {x : Int} (hx : 0 ≤ x ∧ x < 256) (hne : bt (A ++ (frameB b ++ R)) ((A.size + (2 + j) : Nat) : Int) ≠ x) :
    (frameG (setB (A ++ (frameB b ++ R)) (A.size + (2 + j)) x) A.size).2.2 ≠ 0 := by
  have hv := of_decide_eq_true hb
  have z2 : (put 2 b.size).size = 2 := by rw [size_put]; rfl
  have z4 : ∀ c, (put 4 c).size = 4 := by intro c; rw [size_put]; rfl
  have hr := sumR_range (put 2 b.size ++ b)
  have s0 : frameB b ++ R = put 2 b.size ++ (put 4 (sumR (put 2 b.size ++ b)) ++ (b ++ R)) := by
    unfold frameB; simp only [ByteArray.append_assoc]
  have hg4 := gets_put4 _ hr.1 hr.2
  rw [bt_add A _ (2 + j) _ (by rw [ByteArray.size_append, size_frameB]; omega) rfl, s0] at hne
  rw [setB_right, s0]
  generalize hc : sumR (put 2 b.size ++ b) = c at *
  rw [bt_add (put 2 b.size) _ j _ (by rw [ByteArray.size_append, ByteArray.size_append, z4]; omega) (by rw [z2])] at hne
  have e2 : 2 + j = (put 2 b.size).size + j := by rw [z2]
  rw [e2, setB_right]
  by_cases c4 : j < 4
  · rw [bt_left _ _ _ (by rw [z4]; exact c4)] at hne
    rw [setB_left _ _ _ _ (by rw [z4]; exact c4)]
    refine frameG_bad A R (setB (put 4 c) j x) b hb (by rw [size_setB, z4]) (fun e => ?_)
    rw [hc, ← hg4] at e
    have e3 := gets4_inj e j c4
    rw [bt_same _ _ (by rw [z4]; exact c4) hx] at e3
    exact hne e3.symm
  · obtain ⟨i, rfl⟩ : ∃ i, j = 4 + i := ⟨j - 4, by omega⟩
    rw [bt_add (put 4 c) _ i _ (by rw [ByteArray.size_append]; omega) (by rw [z4]), bt_left _ _ _ (by omega)] at hne
    have e4 : 4 + i = (put 4 c).size + i := by rw [z4]
    rw [e4, setB_right, setB_left _ _ _ _ (by omega)]
    have hz := size_setB b i x
    have h := frameG_bad A R (put 4 c) (setB b i x) (by unfold valid; rw [hz]; exact hb) (z4 c) ?_
    · rw [hz] at h
      exact h
    · rw [hz, hg4, ← hc]
      refine sumR_ne _ _ (by rw [ByteArray.size_append, ByteArray.size_append, hz]) (2 + i) (by rw [ByteArray.size_append, z2]; omega) (fun m hm => ?_) ?_
      · by_cases c5 : m < 2
        · rw [bt_left _ _ _ (by rw [z2]; exact c5), bt_left _ _ _ (by rw [z2]; exact c5)]
        · obtain ⟨m', rfl⟩ : ∃ m', m = 2 + m' := ⟨m - 2, by omega⟩
          by_cases c6 : m' < b.size
          · rw [bt_add (put 2 b.size) _ m' _ c6 (by rw [z2]), bt_add (put 2 b.size) _ m' _ (by rw [hz]; exact c6) (by rw [z2]), bt_other b i m' c6 (by omega) hx]
          · have out : ∀ s : ByteArray, s.size = 2 + b.size → bt s ((2 + m' : Nat) : Int) = 0 := fun s hs => by unfold bt; rw [dif_neg (by omega)]
            rw [out _ (by rw [ByteArray.size_append, z2]), out _ (by rw [ByteArray.size_append, z2, hz])]
      · rw [bt_add (put 2 b.size) _ i _ (by omega) (by rw [z2]), bt_add (put 2 b.size) _ i _ (by rw [hz]; omega) (by rw [z2]), bt_same b i (by omega) hx]
        exact hne
theorem encF_append (xs ys : List ByteArray) : encF (xs ++ ys) = encF xs ++ encF ys := by
  induction xs with
  | nil => simp [encF]
  | cons x r ih => simp only [List.cons_append, encF, ih, ByteArray.append_assoc]
/-- of frames in which one byte of the k-th one is set to another just those ahead are told -/
theorem fall_turned (bs : List ByteArray) (k : Nat) (b : ByteArray) (hk : bs[k]? = some b) (hv : ∀ b ∈ bs, valid b = true) (j : Nat) (hj : j < 4 + b.size) {x : Int} (hx : 0 ≤ x ∧ x < 256) (hl : bs.length < 8796093022208) (hs : (encF bs).size ≤ 140737488351232 * 4)
    (hne : bt (encF bs) (((encF (bs.take k)).size + (2 + j) : Nat) : Int) ≠ x) (K : Nat) (hK : 50001 + bs.length ≤ K) : frame_All.f K (setB (encF bs) ((encF (bs.take k)).size + (2 + j)) x) = some (bs.take k, ((encF (bs.take k)).size : Int)) := by
  obtain ⟨hlt, hb⟩ := List.getElem?_eq_some_iff.1 hk
  have e : encF bs = encF (bs.take k) ++ (frameB b ++ encF (bs.drop (k + 1))) := by
    conv => lhs; rw [← List.take_append_drop k bs, List.drop_eq_getElem_cons hlt, hb, encF_append]
    rfl
  have hsz := size_setB (encF bs) ((encF (bs.take k)).size + (2 + j)) x
  refine fall_some (bs.take k) (setB (frameB b ++ encF (bs.drop (k + 1))) (2 + j) x) (by rw [e, setB_right]) (fun b hb => hv b (List.mem_of_mem_take hb)) (by rw [List.length_take]; omega) (by rw [hsz]; exact hs) ?_ K (by rw [List.length_take]; omega)
  rw [e] at hne ⊢
  exact frameG_turned _ _ b (hv b (List.mem_of_getElem? hk)) j hj hx hne
end Go.Proofs.Ytfccgiccllnkkaa.Words
