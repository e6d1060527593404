/-
  The statements ShaSums and ShaWhole, walked.
-/
import Derived.Test.YtelhajoedlaohaaDoorShaAbc
namespace Go.Proofs.YtelhajoedlaohaaDoor.Sha
set_option linter.unusedVariables false
set_option linter.unusedSimpArgs false
open Go Go.RowKit Go.Proofs.YtelhajoedlaohaaDoor.Plain Go.Proofs.YtelhajoedlaohaaDoor.PD Go.Proofs.YtelhajoedlaohaaDoorW.PrintWords Go.Proofs.YtelhajoedlaohaaDoorW.PrintLast Go.Proofs.YtelhajoedlaohaaDoorW.PrintMore
attribute [local go_sem] max2_int min2_int max_two min_two max_three min_three max_four min_four
/-- the rounds' table lies in memory -/
structure Tab (w : World) : Prop where
  out : w.rangeAt 0 0 (roots.map fun n : Nat => Value.int .u32 (n : Int))
theorem Tab.below {w w' : World} {B : Nat} (h : Tab w) (hB : w.heap.size ≤ B) (hb : Below B w w') : Tab w' := ⟨fun j v hj => (hb.cell (Nat.lt_of_lt_of_le (World.block_lt_of_cell? w _ (h.out j v hj)) hB)).trans (h.out j v hj)⟩
theorem Tab.step {w w' : World} (h : Tab w) (hb : Below w.heap.size w w') : Tab w' := h.below (Nat.le_refl _) hb
theorem sum_tab (s : ByteArray) (w : World) (h : Tab w) (hs : s.size ≤ 281474976710656) :
    Calls Tryd.prog 15 #[.string s] w fun e w' => e = .returned (.string (sumK roots s)) ∧ Below w.heap.size w w' := sum_walk roots s w roots_length roots_bnd h.out hs
theorem cut_list (s : ByteArray) (l : List UInt8) (h : s.data.toList = l) (a b : Nat) (hb : b ≤ l.length) : (s.extract a b).toList = (l.drop a).take (b - a) := by
  rw [toList_data, ByteArray.data_extract, Array.toList_extract, List.extract_eq_take_drop, h]
set_option maxHeartbeats 4000000 in
set_option maxRecDepth 100000 in
theorem wakes04 (w : World) (HT : Tab w) :
    Calls Tryd.prog 14 #[] w fun e w' => e = .returned (.bool true) ∧ Below w.heap.size w w' := by
  have HW := fun w h => Aside0.mk (sum_tab ⟨#[97, 98, 99]⟩ w h (by decide))
  have h1 : (sumK roots ⟨#[97, 98, 99]⟩).size = 32 := sumK_size _ _
  have h2 := cut_list _ _ abc_sum 0 8 (by decide)
  have h3 := cut_list _ _ abc_sum 28 32 (by decide)
  generalize sumK roots ⟨#[97, 98, 99]⟩ = C at HW h1 h2 h3
  have h2 : (C.extract 0 8).toList = [186, 120, 22, 191, 143, 1, 207, 234] := h2
  have h3 : (C.extract 28 32).toList = [242, 0, 21, 173] := h3
  have HT := Aside0.mk HT
  go_enter Tryd.func14, Tryd.ntmps14
  go_wp2_with (go_at_call 15; (with_reducible refine ((HW _ HT.out).out).mono ?_); rintro e w1 ⟨rfl, hb⟩; have HB1 := Aside0.mk hb; clear hb)
  go_ret
  exact ⟨by rw [show (List.take 4 (List.drop 28 abcB) == [242, 0, 21, 173]) = true from by decide]; rfl, HB1.out⟩
set_option maxHeartbeats 4000000 in
set_option maxRecDepth 100000 in
theorem sums_walk (s : ByteArray) (w : World) (HT : Tab w) (hs : s.size ≤ 140737488351232) :
    Calls Tryd.prog 4 #[.string s] w fun e w' => e = .returned (.bool true) ∧ Below w.heap.size w w' := by
  have HT := Aside0.mk HT
  have hmn : max (min (s.size : Int) 5000) 0 = min (s.size : Int) 5000 := by omega
  have hSum := fun (t : ByteArray) w h (ht : t.size ≤ 281474976710656) => Aside0.mk (sum_tab t w h ht)
  have hRef := fun (t : ByteArray) w (ht : t.size ≤ 281474976710656) => Aside0.mk (rsum_walk t w ht)
  clear hmn
  go_enter Tryd.func4, Tryd.ntmps4
  go_upto_region 2 with fail
  obtain ⟨t, ht, hts⟩ : ∃ t, s.extract 0 (if (5000 : Int) < (s.size : Int) then 5000 else (s.size : Int)).toNat = t ∧ t.size ≤ 281474976710656 := ⟨_, rfl, by rw [ByteArray.size_extract]; omega⟩
  rw [ht]
  have hS := fun w h => hSum t w h hts
  have hR := fun w => hRef t w hts
  clear hSum hRef ht hts
  generalize sumK roots t = C at hS hR
  go_wp2_with (first
    | (go_at_call 14; (with_reducible refine (wakes04 _ HT.out).mono ?_); rintro e w1 ⟨rfl, hb⟩; have HB1 := Aside0.mk hb; have HT1 := Aside0.mk (HT.out.step hb); clear hb)
    | (go_at_call 15; (with_reducible refine ((hS _ HT1.out).out).mono ?_); rintro e w2 ⟨rfl, hb⟩; have HB2 := Aside0.mk (below_step HB1.out hb); clear hb)
    | (go_at_call 16; (with_reducible refine ((hR _).out).mono ?_); rintro e w3 ⟨rfl, hb⟩; have HB3 := Aside0.mk (below_step HB2.out hb); clear hb))
  all_goals
    go_ret
    exact ⟨rfl, HB3.out⟩
end Go.Proofs.YtelhajoedlaohaaDoor.Sha
