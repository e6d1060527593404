/-
  The statement MacWhole, walked.
-/
import Derived.Test.YtelhajoedlaohaaDoorMacL
import Derived.Laws.MakeOwn
namespace Go.Proofs.YtelhajoedlaohaaDoor.Sha
set_option linter.unusedVariables false
set_option linter.unusedSimpArgs false
open Go Go.RowKit Go.Proofs.YtelhajoedlaohaaDoor.Plain Go.Proofs.YtelhajoedlaohaaDoor.PS Go.Proofs.YtelhajoedlaohaaDoorW.PrintWords Go.Proofs.YtelhajoedlaohaaDoorW.PrintLast Go.Proofs.YtelhajoedlaohaaDoorW.PrintMore
attribute [local go_sem] max2_int min2_int max_two min_two max_three min_three max_four min_four
theorem keyB_short {key : ByteArray} (h : key.size ≤ 64) : keyB key = key := by unfold keyB; rw [if_neg (by omega)]
theorem laidK_digest (key : ByteArray) (x : Int) (h : 64 < key.size) : laidK (sumK roots key) x = laidK key x := by
  unfold laidK
  have e : keyB key = sumK roots key := by unfold keyB; rw [if_pos h]
  rw [e, keyB_short (by rw [sumK_size]; omega)]
theorem tagK_digest (key text : ByteArray) (h : 64 < key.size) : tagK (sumK roots key) text = tagK key text := by
  unfold tagK innerK outerK
  rw [laidK_digest _ _ h, laidK_digest _ _ h]
theorem keyAt_zeros (key : ByteArray) (z j : Nat) : keyAt (key ++ zeros z) j = keyAt key j := by
  have hl : key.data.toList.length = key.size := Array.length_toList
  have hz : (key ++ zeros z).size = key.size + z := by rw [ByteArray.size_append, zeros_size]
  have hl2 : (key ++ zeros z).data.toList.length = (key ++ zeros z).size := Array.length_toList
  unfold keyAt
  by_cases h1 : j < key.size
  · rw [if_pos h1, if_pos (by omega), bt_bl _ _ (by omega), bt_bl _ _ h1]
    unfold G bl
    rw [ByteArray.data_append, Array.toList_append, List.getD_eq_getElem?_getD, List.getElem?_map, List.getElem?_append_left (by omega), List.getD_eq_getElem?_getD, List.getElem?_map]
  · rw [if_neg h1]
    split
    · rename_i h2
      rw [bt_bl _ _ h2]
      unfold G bl
      have e : (zeros z).data.toList = List.replicate z 0 := rfl
      rw [ByteArray.data_append, Array.toList_append, List.getD_eq_getElem?_getD, List.getElem?_map, List.getElem?_append_right (by omega), e, List.getElem?_replicate_of_lt (by omega)]
      rfl
    · rfl
theorem laidK_zeros (key : ByteArray) (z : Nat) (x : Int) (h : key.size + z ≤ 64) : laidK (key ++ zeros z) x = laidK key x := by
  unfold laidK
  rw [keyB_short (by rw [ByteArray.size_append, zeros_size]; exact h), keyB_short (by omega)]
  congr 1
  unfold laidL
  apply List.map_congr_left
  intro j _
  rw [keyAt_zeros]
theorem tagK_zeros (key text : ByteArray) (z : Nat) (h : key.size + z ≤ 64) : tagK (key ++ zeros z) text = tagK key text := by
  unfold tagK innerK outerK
  rw [laidK_zeros _ _ _ h, laidK_zeros _ _ _ h]
theorem made_zero (z : Nat) : madeCells (Value.int .u8 0).cells (z * 1) = arr .u8 (List.replicate z 0) := by
  unfold madeCells arr
  apply Array.ext
  · simp
  · intro i h1 h2
    simp [Value.cells, Nat.mod_one]
theorem make_zero (W : World) (z : Nat) (hz : z ≤ 64) : (Instr.makeSlice 37 (.int .i64 (z : Int)) (.int .i64 (z : Int))).run Tryd.prog W = .ok (.slice (some ⟨W.heap.size, 0, none⟩) z z) (W.alloc (.cells (arr .u8 (List.replicate z 0)) 5)) := by
  obtain ⟨i0, hi, hz0, hz1, hz2⟩ := info_parts (show (Tryd.prog.info? 5).map (fun i => (i.zero, i.size, i.bytes)) = some (some (.int .u8 0), 1, 1) by kernel_rfl)
  have h := run_make (P := Tryd.prog) W 37 5 i0 (.int .u8 0) Tryd.underlying37 hi hz0 .i64 .i64 (z : Int) (z : Int) (by omega) (by omega) (by rw [hz2]; omega) (by omega)
  rw [h, hz1, Int.toNat_natCast, made_zero]
theorem zeros_nums (z : Nat) : strOfNums (List.replicate z 0) = zeros z := by
  unfold strOfNums zeros
  rw [List.map_replicate]; rfl
theorem conv_zero (W : World) (z : Nat) (hz : z ≤ 64) : (convert 37 9 (.slice (some ⟨W.heap.size, 0, none⟩) z z)).run Tryd.prog (W.alloc (.cells (arr .u8 (List.replicate z 0)) 5)) = .ok (.string (zeros z)) (W.alloc (.cells (arr .u8 (List.replicate z 0)) 5)) := by
  rw [← zeros_nums]
  refine string_of_reads (P := Tryd.prog) Tryd.underlying37 Tryd.underlying5 Tryd.underlying9 ⟨by simp, by omega, fun _ => ⟨_, rfl, fun j hj => ?_⟩⟩
  rw [add_plain, blk_cell (blk_new W _) j, arr_at .u8 _ j (by simpa using hj)]
  congr 2
  unfold G
  rw [List.getD_eq_getElem?_getD, List.getElem?_replicate_of_lt hj, List.getD_eq_getElem?_getD, List.getElem?_replicate_of_lt hj]
  rfl
set_option maxHeartbeats 4000000 in
set_option maxRecDepth 100000 in
theorem whole05_walk (a b : ByteArray) (n : Int) (w : World) (HT : Tab w) (ha : a.size ≤ 140737488351232) (hb : b.size ≤ 140737488351232) :
    Calls Tryd.prog 8 #[.string a, .string b, .int .i64 n] w fun e w' => e = .returned (.bool true) ∧ Below w.heap.size w w' := by
  have HT := Aside0.mk HT
  have hTag := fun w h => Aside0.mk (tag_walk a b w h (by omega) (by omega))
  have hO := fun w h => Aside0.mk (outer_walk a w h (by omega))
  have hI := fun w h => Aside0.mk (inner_walk a w h (by omega))
  have zo : (outerK a).size = 64 := laidK_size _ _
  have zi : (innerK a).size = 64 := laidK_size _ _
  have zs : (sumK roots (innerK a ++ b)).size = 32 := sumK_size _ _
  have h1 := fun w h => Aside0.mk (sum_tab (innerK a ++ b) w h (by rw [ByteArray.size_append]; omega))
  have h2 : ∀ w, Tab w → Aside0 (Calls Tryd.prog 15 #[.string (outerK a ++ sumK roots (innerK a ++ b))] w fun e w' => e = .returned (.string (tagK a b)) ∧ Below w.heap.size w w') := fun w h => Aside0.mk (sum_tab (outerK a ++ sumK roots (innerK a ++ b)) w h (by rw [ByteArray.size_append]; omega))
  have c1 : ((innerK a).size + b.size ≤ 9223372036854775807) = True := eq_true (by omega)
  have c2 : (9223372036854775807 < (innerK a).size + b.size) = False := eq_false (by omega)
  have c3 : ((outerK a).size + (sumK roots (innerK a ++ b)).size ≤ 9223372036854775807) = True := eq_true (by omega)
  have c4 : (9223372036854775807 < (outerK a).size + (sumK roots (innerK a ++ b)).size) = False := eq_false (by omega)
  clear zo zi zs
  have hdig : 64 < a.size → ∀ w, Tab w → Aside0 (Calls Tryd.prog 24 #[.string (sumK roots a), .string b] w fun e w' => e = .returned (.string (tagK a b)) ∧ Below w.heap.size w w') := fun h w ht => ⟨by
    rw [← tagK_digest a b h]; exact tag_walk _ _ w ht (by rw [sumK_size]; decide) (by omega)⟩
  have hzer : ∀ z, a.size + z ≤ 64 → ∀ w, Tab w → Aside0 (Calls Tryd.prog 24 #[.string (a ++ zeros z), .string b] w fun e w' => e = .returned (.string (tagK a b)) ∧ Below w.heap.size w w') := fun z h w ht => ⟨by
    rw [← tagK_zeros a b z h]; exact tag_walk _ _ w ht (by rw [ByteArray.size_append, zeros_size]; omega) (by omega)⟩
  have hsum := fun w h => Aside0.mk (sum_tab a w h (by omega))
  have hDz : (sumK roots a).size = 32 := sumK_size _ _
  generalize sumK roots a = DA at hdig hsum hDz
  generalize tagK a b = C at hTag h2 hdig hzer
  generalize outerK a = O at hO h2 c3 c4
  generalize innerK a = I at hI h1 h2 c1 c2 c3 c4
  generalize sumK roots (I ++ b) = D at h1 h2 c3 c4
  go_enter Tryd.func8, Tryd.ntmps8
  go_upto_region 2 with (go_at_call 24; (with_reducible refine ((hTag _ HT.out).out).mono ?_); rintro e w1 ⟨rfl, hb⟩; have HB1 := Aside0.mk hb; have HT1 := Aside0.mk (HT.out.step hb); clear hb)
  go_upto_region 4 with (first
    | (go_at_call 23; (with_reducible refine (wakes05 _ HT1.out).mono ?_); rintro e w2 ⟨rfl, hb⟩; have HB2 := Aside0.mk (below_step HB1.out hb); have HT2 := Aside0.mk (HT1.out.step hb); clear hb)
    | (go_at_call 21; (with_reducible refine ((hO _ HT2.out).out).mono ?_); rintro e w3 ⟨rfl, hb⟩; have HB3 := Aside0.mk (below_step HB2.out hb); have HT3 := Aside0.mk (HT2.out.step hb); clear hb)
    | (go_at_call 19; (with_reducible refine ((hI _ HT3.out).out).mono ?_); rintro e w4 ⟨rfl, hb⟩; have HB4 := Aside0.mk (below_step HB3.out hb); have HT4 := Aside0.mk (HT3.out.step hb); clear hb)
    | (go_at_call 15; (with_reducible refine ((h1 _ HT4.out).out).mono ?_); rintro e w5 ⟨rfl, hb⟩; have HB5 := Aside0.mk (below_step HB4.out hb); have HT5 := Aside0.mk (HT4.out.step hb); clear hb h1)
    | (go_at_call 15; (with_reducible refine ((h2 _ HT5.out).out).mono ?_); rintro e w6 ⟨rfl, hb⟩; have HB6 := Aside0.mk (below_step HB5.out hb); have HT6 := Aside0.mk (HT5.out.step hb); clear hb h2))
  clear c1 c2 c3 c4
  by_cases h64 : 64 < a.size
  · have d1 : decide (64 < (a.size : Int)) = true := by simp; omega
    have hd := hdig h64
    clear hdig hzer
    go_wp2_with (first
      | (go_at_call 15; (with_reducible refine ((hsum _ HT6.out).out).mono ?_); rintro e w7 ⟨rfl, hb⟩; have HB7 := Aside0.mk (below_step HB6.out hb); have HT7 := Aside0.mk (HT6.out.step hb); clear hb)
      | (go_at_call 24; (with_reducible refine ((hd _ HT7.out).out).mono ?_); rintro e w8 ⟨rfl, hb⟩; have HB8 := Aside0.mk (below_step HB7.out hb); clear hb))
    go_ret
    exact ⟨rfl, HB8.out⟩
  · have d1 : decide (64 < (a.size : Int)) = false := by simp; omega
    obtain ⟨m, hm_, hm0⟩ : ∃ m : Int, (if (0 : Int) < n then n else 0) = m ∧ 0 ≤ m := ⟨_, rfl, by split <;> omega⟩
    obtain ⟨z, hz, hzl⟩ : ∃ z : Nat, Int.tmod m (65 - (a.size : Int)) = (z : Int) ∧ a.size + z ≤ 64 := by
      have h0 := Int.tmod_nonneg (65 - (a.size : Int)) hm0
      have h2 := Int.tmod_lt_of_pos m (show (0 : Int) < 65 - (a.size : Int) by omega)
      exact ⟨(Int.tmod m (65 - (a.size : Int))).toNat, by omega, by omega⟩
    have hz2 : m % (65 - (a.size : Int)) = (z : Int) := by rw [← Int.tmod_eq_emod_of_nonneg hm0]; exact hz
    have hd := hzer z hzl
    clear hdig hzer
    have km := fun W => make_zero W z (by omega)
    have kc := fun W => conv_zero W z (by omega)
    have hzz : (zeros z).size = z := zeros_size z
    have c5 : (a.size + (zeros z).size ≤ 9223372036854775807) = True := eq_true (by omega)
    have c6 : (9223372036854775807 < a.size + (zeros z).size) = False := eq_false (by omega)
    have n0 : ¬ (65 : Int) - (a.size : Int) = 0 := by omega
    have a64 : (a.size : Int) ≤ 64 := by omega
    generalize zeros z = Z at hd kc c5 c6
    clear hzz
    go_wp2_with (go_at_call 24; (with_reducible refine ((hd _ (HT6.out.step (below_alloc (Below.refl _ _) _))).out).mono ?_); rintro e w8 ⟨rfl, hb⟩; have HB8 := Aside0.mk (below_step (below_alloc HB6.out _) hb); clear hb)
    go_ret
    exact ⟨rfl, HB8.out⟩
end Go.Proofs.YtelhajoedlaohaaDoor.Sha
