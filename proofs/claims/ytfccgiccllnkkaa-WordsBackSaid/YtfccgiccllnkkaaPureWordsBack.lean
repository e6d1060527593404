/- Of all lists of numbers and texts: put one behind the other they are read back one behind the other; and the fixed examples. No condition beyond the statement's own. -/
import Derived.Test.YtfccgiccllnkkaaBits
import Derived.Test.YtfccgiccllnkkaaTexts
import Derived.Test.YtfccgiccllnkkaaBytes
import Derived.Test.YtfccgiccllnkkaaPXx5
namespace Go.Proofs.Ytfccgiccllnkkaa.Pure
set_option linter.unusedVariables false
set_option linter.unusedSimpArgs false
open Go Go.RowKit Go.Proofs.Ytfccgiccllnkkaa.Plain Go.Proofs.Ytfccgiccllnkkaa.Words Go.Proofs.Ytfccgiccllnkkaa.PX Go.Proofs.YtfccgiccllnkkaaW.PrintWords Go.Proofs.YtfccgiccllnkkaaW.PrintLast Go.Proofs.YtfccgiccllnkkaaW.PrintMore
/-- the width of the number at place i -/
def wid (i : Nat) : Int := 1 + (i % 8 : Nat)
def encN : Nat → List Int → ByteArray
  | _, [] => ByteArray.empty
  | i, x :: r => put (wid i) x ++ encN (i + 1) r
def cutB (s : ByteArray) : ByteArray := s.extract 0 (min s.size 1000)
def encT : List ByteArray → ByteArray
  | [] => ByteArray.empty
  | x :: r => (put 2 (cutB x).size ++ cutB x) ++ encT r
theorem size_cutB (s : ByteArray) : (cutB s).size = min s.size 1000 := by unfold cutB; rw [ByteArray.size_extract]; omega
theorem size_encN (xs : List Int) : ∀ i, (encN i xs).size ≤ 8 * xs.length := by
  induction xs with
  | nil => intro i; exact Nat.le_refl _
  | cons x r ih =>
    intro i
    have := ih (i + 1)
    simp only [encN, ByteArray.size_append, size_put, List.length_cons]
    omega
theorem size_encT (xs : List ByteArray) : (encT xs).size ≤ 1002 * xs.length := by
  induction xs with
  | nil => exact Nat.le_refl _
  | cons x r ih =>
    have z : (put 2 (cutB x).size).size = 2 := by rw [size_put]; rfl
    have z2 := size_cutB x
    simp only [encT, ByteArray.size_append, z, List.length_cons]
    omega
theorem wid_range (i : Nat) : 1 ≤ wid i ∧ wid i ≤ 8 := by unfold wid; omega
theorem wid_wrap (i : Nat) : wrap64 (1 + Int.tmod (i : Int) 8) = wid i := by
  rw [Int.tmod_eq_emod_of_nonneg (by omega), w64 (by omega) (by omega)]
  unfold wid; omega
theorem drop_cons {α : Type} (l : List α) (i : Nat) (h : i < l.length) (d : α) : l.drop i = l.getD i d :: l.drop (i + 1) := by
  rw [List.drop_eq_getElem_cons h, List.getD_eq_getElem?_getD, List.getElem?_eq_getElem h]; rfl
theorem wraps_some (k : Nat) (hk : 300 ≤ k) : precinctlaw01_wakes.f k = some true := by
  unfold precinctlaw01_wakes.f
  rw [put_some (w := 3) (n := 258) k (by omega) (by omega) (by omega)]
  have e1 : (put 3 258).toList = [0, 1, 2] := by rw [toList_data]; decide
  have e2 : words_Fold.f (-2) = some 3 := by decide +kernel
  have e3 : words_Rotate.f 1 (-1) = some 2147483648 := by decide +kernel
  have e4 : words_Narrow.f 200 8 = some (-56) := by decide +kernel
  have e5 : bitsR 180 2 3 = 5 := by decide
  rw [bits_some (n := 180) (f := 2) (c := 3) k (by omega) (by omega) (by omega), e2, e3, e4, e5]
  simp [e1]
section
variable (L0 : List Int) (L1 : List ByteArray)
theorem put_phase (h1 : L0.length ≤ 30) (hw : ∀ x ∈ L0, 0 ≤ x ∧ x < 18446744073709551616) (d : Nat) : ∀ (k i : Nat) (s : ByteArray), 49 ≤ k → i + d = L0.length → s.size ≤ 8 * i →
    precinctlaw01_WordsBack.l0 (k + d + 1) L0 L1 s L0 (L0.length : Int) i = precinctlaw01_WordsBack.l1 k L0 L1 (s ++ encN i (L0.drop i)) L1 (L1.length : Int) 0 := by
  induction d with
  | zero =>
    intro k i s hk hi hs
    rw [show k + 0 + 1 = k + 1 by omega, precinctlaw01_WordsBack.l0, if_neg (by omega), List.drop_eq_nil_of_le (by omega)]
    simp [encN]
  | succ d ih =>
    intro k i s hk hi hs
    have hm := hw (L0.getD i 0) (by rw [List.getD_eq_getElem?_getD, List.getElem?_eq_getElem (by omega)]; exact List.getElem_mem _)
    have hr := wid_range i
    have er : rd L0 (i : Int) = L0.getD i 0 := by unfold rd; rw [show ((i : Int)).toNat = i by omega]
    rw [show k + (d + 1) + 1 = (k + d + 1) + 1 by omega, precinctlaw01_WordsBack.l0, if_pos (by omega), if_pos (by omega), if_pos (by omega), wid_wrap, er, put_some _ hm.1 hm.2 (by omega)]
    simp only [Option.bind_some]
    have z : (put (wid i) (L0.getD i 0)).size ≤ 8 := by rw [size_put]; omega
    rw [if_pos (by omega), w64 (by omega) (by omega), show (i : Int) + 1 = ((i + 1 : Nat) : Int) by omega, ih k (i + 1) _ hk (by omega) (by rw [ByteArray.size_append]; omega), drop_cons L0 i (by omega) 0]
    simp only [encN]
    rw [ByteArray.append_assoc]
theorem ext_cut (s : ByteArray) : s.extract 0 ((mn (s.size : Int) 1000) : Int).toNat = cutB s := by
  unfold cutB
  congr 1
  unfold mn; omega
theorem text_cut (s : ByteArray) : textR (cutB s) = (put 2 (cutB s).size ++ cutB s, 0) := by
  unfold textR
  rw [if_neg (by rw [size_cutB]; omega)]
theorem text_phase (h1 : L1.length ≤ 30) (d : Nat) : ∀ (k i : Nat) (s : ByteArray), 49 ≤ k → i + d = L1.length → s.size ≤ 240 + 1002 * i →
    precinctlaw01_WordsBack.l1 (k + d + 1) L0 L1 s L1 (L1.length : Int) i = precinctlaw01_WordsBack.l2 k L1 (s ++ encT (L1.drop i)) 0 L0 (L0.length : Int) 0 := by
  induction d with
  | zero =>
    intro k i s hk hi hs
    rw [show k + 0 + 1 = k + 1 by omega, precinctlaw01_WordsBack.l1, if_neg (by omega), List.drop_eq_nil_of_le (by omega)]
    simp [encT]
  | succ d ih =>
    intro k i s hk hi hs
    have er : rdOf ByteArray.empty L1 (i : Int) = L1.getD i ByteArray.empty := by unfold rdOf; rw [show ((i : Int)).toNat = i by omega]
    have z := size_cutB (L1.getD i ByteArray.empty)
    have zp : (put 2 (cutB (L1.getD i ByteArray.empty)).size).size = 2 := by rw [size_put]; rfl
    rw [show k + (d + 1) + 1 = (k + d + 1) + 1 by omega, precinctlaw01_WordsBack.l1, if_pos (by omega), if_pos (by omega), if_pos (by omega), er, if_pos (by unfold mn; split <;> omega), if_pos (by unfold mn; split <;> omega), ext_cut, text_some _ (by omega) (by omega), text_cut]
    simp only [Option.bind_some, if_true]
    rw [if_pos (by rw [ByteArray.size_append]; omega), w64 (by omega) (by omega), show (i : Int) + 1 = ((i + 1 : Nat) : Int) by omega, ih k (i + 1) _ hk (by omega) (by rw [ByteArray.size_append, ByteArray.size_append]; omega), drop_cons L1 i (by omega) ByteArray.empty]
    simp only [encT]
    rw [ByteArray.append_assoc]
theorem bits_all {n : Int} (hn : 0 ≤ n) (w : Int) (w0 : 1 ≤ w) (w1 : w ≤ 8) : bitsR n 0 (8 * w) = n % 256 ^ w.toNat := by
  obtain ⟨m, rfl⟩ := Int.eq_ofNat_of_zero_le hn
  unfold bitsR bitsN
  rw [if_neg (by omega), if_neg (by omega), show (min (8 * w) 64).toNat = 8 * w.toNat by omega, Nat.pow_mul]
  simp
theorem num_get (A R : ByteArray) (x w : Int) (hx : 0 ≤ x ∧ x < 18446744073709551616) (w0 : 1 ≤ w) (w1 : w ≤ 8) (hz : (A ++ (put w x ++ R)).size ≤ 140737488351232 * 4) (k : Nat) (hk : 100 ≤ k) :
    words_Get.f k (A ++ (put w x ++ R)) A.size w = some (x % 256 ^ w.toNat, A.size + w, 0) := by
  rw [get_some k (by rw [ByteArray.size_append] at hz; omega) hz (by omega), get_put A R w x hx.1 w0 w1]
theorem num_bits (x w : Int) (hx : 0 ≤ x ∧ x < 18446744073709551616) (w0 : 1 ≤ w) (w1 : w ≤ 8) (k : Nat) (hk : 100 ≤ k) : words_Bits.f k x 0 (wrap64 (8 * w)) = some (x % 256 ^ w.toNat) := by
  rw [w64 (n := 8 * w) (by omega) (by omega), bits_some k hx (by omega) (by omega), bits_all hx.1 w w0 w1]
theorem num_round (x : Int) (R T A : ByteArray) (i : Nat) (h1 : L0.length ≤ 30) (hi : i < L0.length) (ex : L0.getD i 0 = x) (hx : 0 ≤ x ∧ x < 18446744073709551616) (hz : (A ++ ((put (wid i) x ++ R) ++ T)).size ≤ 140737488351232 * 4) (k : Nat) (hk : 100 ≤ k) :
    precinctlaw01_WordsBack.l2 (k + 1) L1 (A ++ ((put (wid i) x ++ R) ++ T)) (A.size : Int) L0 (L0.length : Int) i = precinctlaw01_WordsBack.l2 k L1 ((A ++ put (wid i) x) ++ (R ++ T)) ((A ++ put (wid i) x).size : Int) L0 (L0.length : Int) ((i + 1 : Nat) : Int) := by
  have hr := wid_range i
  have er : rd L0 (i : Int) = x := by unfold rd; rw [show ((i : Int)).toNat = i by omega]; exact ex
  have zp : ((put (wid i) x).size : Int) = wid i := by rw [size_put]; omega
  rw [precinctlaw01_WordsBack.l2, if_pos (by omega), if_pos (by omega), if_pos (by omega), wid_wrap, er]
  rw [ByteArray.append_assoc] at hz ⊢
  rw [num_get A _ x (wid i) hx hr.1 hr.2 hz k hk, Option.bind_some, if_pos rfl, num_bits x (wid i) hx hr.1 hr.2 k hk, Option.bind_some, if_pos rfl]
  rw [w64 (by omega) (by omega), show (i : Int) + 1 = ((i + 1 : Nat) : Int) by omega, show ((A ++ put (wid i) x).size : Int) = A.size + wid i by rw [ByteArray.size_append]; omega]
  rw [ByteArray.append_assoc (a := A)]
theorem num_phase (h1 : L0.length ≤ 30) (h2 : L1.length ≤ 30) (hw : ∀ x ∈ L0, 0 ≤ x ∧ x < 18446744073709551616) (d : Nat) : ∀ (k i : Nat) (A : ByteArray), 399 ≤ k → i + d = L0.length → A.size ≤ 8 * i →
    precinctlaw01_WordsBack.l2 (k + d + 1) L1 (A ++ (encN i (L0.drop i) ++ encT L1)) (A.size : Int) L0 (L0.length : Int) i = precinctlaw01_WordsBack.l3 k (A ++ (encN i (L0.drop i) ++ encT L1)) ((A ++ encN i (L0.drop i)).size : Int) L1 (L1.length : Int) 0 := by
  induction d with
  | zero =>
    intro k i A hk hi hs
    rw [show k + 0 + 1 = k + 1 by omega, precinctlaw01_WordsBack.l2, if_neg (by omega), List.drop_eq_nil_of_le (by omega)]
    simp [encN]
  | succ d ih =>
    intro k i A hk hi hs
    have hm := hw (L0.getD i 0) (by rw [List.getD_eq_getElem?_getD, List.getElem?_eq_getElem (by omega)]; exact List.getElem_mem _)
    have hd := drop_cons L0 i (by omega) 0
    have hr := wid_range i
    have s1 := size_encN (L0.drop i) i
    have s2 := size_encT L1
    have s3 : (L0.drop i).length ≤ 30 := by rw [List.length_drop]; omega
    have hz : (A ++ (encN i (L0.drop i) ++ encT L1)).size ≤ 140737488351232 * 4 := by rw [ByteArray.size_append, ByteArray.size_append]; omega
    have zp : (put (wid i) (L0.getD i 0)).size ≤ 8 := by rw [size_put]; omega
    have e := ih k (i + 1) (A ++ put (wid i) (L0.getD i 0)) hk (by omega) (by rw [ByteArray.size_append]; omega)
    rw [hd] at hz ⊢
    have en : encN i (L0.getD i 0 :: L0.drop (i + 1)) = put (wid i) (L0.getD i 0) ++ encN (i + 1) (L0.drop (i + 1)) := rfl
    rw [en] at hz ⊢
    rw [show k + (d + 1) + 1 = (k + d + 1) + 1 by omega, num_round L0 L1 (L0.getD i 0) _ _ A i h1 (by omega) rfl hm hz (k + d + 1) (by omega), e]
    simp only [ByteArray.append_assoc]
theorem get_text (A R : ByteArray) (s : ByteArray) (h : s.size ≤ 1000) : gtextR (A ++ ((put 2 s.size ++ s) ++ R)) A.size = (s, (A.size : Int) + 2 + s.size, 0) := by
  have zp : (put 2 s.size).size = 2 := by rw [size_put]; rfl
  unfold gtextR
  rw [ByteArray.append_assoc, get_put A (s ++ R) 2 s.size (by omega) (by omega) (by omega)]
  have e : (s.size : Int) % 256 ^ (2 : Int).toNat = s.size := by
    show (s.size : Int) % 65536 = _
    omega
  simp only [e, if_true]
  rw [if_neg (by rw [ByteArray.size_append, ByteArray.size_append, ByteArray.size_append]; omega)]
  have c := cut_mid (A ++ put 2 s.size) s R
  rw [ByteArray.append_assoc, ByteArray.size_append, zp] at c
  rw [show ((A.size : Int) + 2).toNat = A.size + 2 by omega, show ((A.size : Int) + 2 + s.size).toNat = A.size + 2 + s.size by omega, c]
theorem read_phase (h2 : L1.length ≤ 30) (d : Nat) : ∀ (k i : Nat) (A : ByteArray), 349 ≤ k → i + d = L1.length → A.size ≤ 240 + 1002 * i →
    precinctlaw01_WordsBack.l3 (k + d + 1) (A ++ encT (L1.drop i)) (A.size : Int) L1 (L1.length : Int) i = some true := by
  induction d with
  | zero =>
    intro k i A hk hi hs
    rw [show k + 0 + 1 = k + 1 by omega, precinctlaw01_WordsBack.l3, if_neg (by omega), wraps_some _ (by omega), List.drop_eq_nil_of_le (by omega)]
    simp [encT]
  | succ d ih =>
    intro k i A hk hi hs
    have er : rdOf ByteArray.empty L1 (i : Int) = L1.getD i ByteArray.empty := by unfold rdOf; rw [show ((i : Int)).toNat = i by omega]
    have z := size_cutB (L1.getD i ByteArray.empty)
    have zp : (put 2 (cutB (L1.getD i ByteArray.empty)).size).size = 2 := by rw [size_put]; rfl
    have s2 := size_encT (L1.drop i)
    have s3 : (L1.drop i).length ≤ 30 := by rw [List.length_drop]; omega
    have hz : (A ++ encT (L1.drop i)).size ≤ 140737488351232 * 4 := by rw [ByteArray.size_append]; omega
    rw [show k + (d + 1) + 1 = (k + d + 1) + 1 by omega, precinctlaw01_WordsBack.l3, if_pos (by omega), if_pos (by omega), if_pos (by omega), er, gtext_some _ (by omega) hz (by omega)]
    rw [drop_cons L1 i (by omega) ByteArray.empty] at *
    simp only [encT]
    rw [get_text A _ _ (by omega)]
    simp only [Option.bind_some, if_true]
    rw [if_pos (by unfold mn; split <;> omega), if_pos (by unfold mn; split <;> omega), ext_cut]
    simp only [if_true]
    rw [w64 (by omega) (by omega), show (i : Int) + 1 = ((i + 1 : Nat) : Int) by omega]
    have e := ih k (i + 1) (A ++ (put 2 (cutB (L1.getD i ByteArray.empty)).size ++ cutB (L1.getD i ByteArray.empty))) hk (by omega) (by rw [ByteArray.size_append, ByteArray.size_append]; omega)
    rw [ByteArray.append_assoc, show ((A ++ (put 2 (cutB (L1.getD i ByteArray.empty)).size ++ cutB (L1.getD i ByteArray.empty))).size : Int) = A.size + 2 + (cutB (L1.getD i ByteArray.empty)).size by rw [ByteArray.size_append, ByteArray.size_append]; omega] at e
    exact e
end
theorem WordsBack : ∀ (l0 : List (Int)) (l1 : List (ByteArray)), (∀ x ∈ l0, (Lit.int .u64 x).wf = true) → l0.length ≤ maxLen → (∀ x ∈ l1, x.size ≤ maxLen) → l1.length ≤ maxLen → ∃ k, precinctlaw01_WordsBack.f k l0 l1 = some true := by
  intro l0 l1 hw0 hl0 hw1 hl1
  refine ⟨2000, ?_⟩
  unfold precinctlaw01_WordsBack.f
  have m0 : 0 ≤ mn (l0.length : Int) 30 ∧ mn (l0.length : Int) 30 ≤ 30 ∧ mn (l0.length : Int) 30 ≤ l0.length := by unfold mn; split <;> omega
  have m1 : 0 ≤ mn (l1.length : Int) 30 ∧ mn (l1.length : Int) 30 ≤ 30 ∧ mn (l1.length : Int) 30 ≤ l1.length := by unfold mn; split <;> omega
  rw [if_pos m0.1, if_pos m0.2.2, if_pos m1.1, if_pos m1.2.2]
  have hw : ∀ x ∈ l0.take ((mn (l0.length : Int) 30) : Int).toNat, 0 ≤ x ∧ x < 18446744073709551616 := fun x hx => wf_u64 (hw0 x (List.mem_of_mem_take hx))
  have n0 : (l0.take ((mn (l0.length : Int) 30) : Int).toNat).length ≤ 30 := by rw [List.length_take]; omega
  have n1 : (l1.take ((mn (l1.length : Int) 30) : Int).toNat).length ≤ 30 := by rw [List.length_take]; omega
  generalize l0.take ((mn (l0.length : Int) 30) : Int).toNat = L0 at *
  generalize l1.take ((mn (l1.length : Int) 30) : Int).toNat = L1 at *
  have k3 : ∃ k3, 349 ≤ k3 ∧ k3 + L1.length + 1 + L0.length + 1 + L1.length + 1 + L0.length + 1 = 2000 := ⟨2000 - 4 - 2 * L0.length - 2 * L1.length, by omega, by omega⟩
  obtain ⟨k3, hk3, hk⟩ := k3
  have s1 := size_encN (L0.drop 0) 0
  have s1' : (L0.drop 0).length ≤ 30 := by rw [List.length_drop]; omega
  have a := put_phase L0 L1 n0 hw L0.length (k3 + L1.length + 1 + L0.length + 1 + L1.length + 1) 0 ByteArray.empty (by omega) (by omega) (by decide)
  have b := text_phase L0 L1 n1 L1.length (k3 + L1.length + 1 + L0.length + 1) 0 (ByteArray.empty ++ encN 0 (L0.drop 0)) (by omega) (by omega) (by rw [ByteArray.size_append]; show 0 + _ ≤ _; omega)
  have c := num_phase L0 L1 n0 n1 hw L0.length (k3 + L1.length + 1) 0 ByteArray.empty (by omega) (by omega) (by decide)
  have e := read_phase L1 n1 L1.length k3 0 (ByteArray.empty ++ encN 0 (L0.drop 0)) hk3 (by omega) (by rw [ByteArray.size_append]; show 0 + _ ≤ _; omega)
  rw [hk] at a
  have z : ((0 : Nat) : Int) = 0 := rfl
  rw [z] at a b c e
  refine Eq.trans a (Eq.trans b ?_)
  have t0 : L1.drop 0 = L1 := rfl
  rw [t0] at e
  rw [t0, ByteArray.append_assoc]
  refine Eq.trans c ?_
  rw [ByteArray.append_assoc] at e
  exact e
end Go.Proofs.Ytfccgiccllnkkaa.Pure
