-- printed by a program of this session out of the translation; see NOTES.md
import Derived.Test.YtjicfkmpgogppaaPGx0
import Derived.Test.YtjicfkmpgogppaaPGx5
import Derived.Test.YtjicfkmpgogppaaRb
namespace Go.Proofs.Ytjicfkmpgogppaa.PG
open Go.RowKit Go.Proofs.YtjicfkmpgogppaaW.PrintWords Go.Proofs.YtjicfkmpgogppaaW.PrintLast Go.Proofs.YtjicfkmpgogppaaW.PrintMore Go.Proofs.YtjicfkmpgogppaaRb
attribute [local go_sem] max2_int min2_int max_two min_two max_three min_three max_four min_four   -- for this text's walks alone
set_option linter.unusedVariables false
set_option linter.unusedSimpArgs false

/-! ### graph_Node_check: function 51 -/
mutual
def graph_Node_check.j0 : Nat → Bool → Bool → ByteArray → List ByteArray → Int → Int → Int → ByteArray → Option (Int)
 | 0, _, _, _, _, _, _, _, _ => none
 | k + 1, x3, x7, x110000, x110001, x110002, x110003, x110004, x110005 => if x7 = true then (graph_Node_check.j1 k x3 x7 x110000 x110001 x110002 x110003 x110004 x110005) else (if x110004 < (-1) then (graph_Node_check.j1 k x3 true x110000 x110001 x110002 x110003 x110004 x110005) else (if x110004 ≥ 8 then (graph_Node_check.j1 k x3 (decide (x110004 ≥ 8)) x110000 x110001 x110002 x110003 x110004 x110005) else (graph_Node_check.j1 k x3 (decide ((x110001.length : Int) > 12)) x110000 x110001 x110002 x110003 x110004 x110005)))
def graph_Node_check.j1 : Nat → Bool → Bool → ByteArray → List ByteArray → Int → Int → Int → ByteArray → Option (Int)
 | 0, _, _, _, _, _, _, _, _ => none
 | k + 1, x3, x7, x110000, x110001, x110002, x110003, x110004, x110005 => if x7 = true then (some 31) else (if x3 = true then (graph_Node_check.j2 k x3 false x110000 x110001 x110002 x110003 x110004 x110005) else (graph_Node_check.j2 k x3 (x110005.toList != ([] : List UInt8)) x110000 x110001 x110002 x110003 x110004 x110005))
def graph_Node_check.j2 : Nat → Bool → Bool → ByteArray → List ByteArray → Int → Int → Int → ByteArray → Option (Int)
 | 0, _, _, _, _, _, _, _, _ => none
 | k + 1, x3, x38, x110000, x110001, x110002, x110003, x110004, x110005 => if x38 = true then (some 31) else (if x3 = true then ((grant_Named.f x110005).bind fun t110 => (if t110 = true then (if x110002 = 1 then (some 0) else (some 31)) else (some 31))) else (some 0))
end
def graph_Node_check.f (k : Nat) (a0_0 : ByteArray) (l0_1 : List ByteArray) (a0_2 : Int) (a0_3 : Int) (a0_4 : Int) (a0_5 : ByteArray) : Option (Int) := if a0_2 < 1 then (graph_Node_check.j0 k (a0_4 != (-1)) true a0_0 l0_1 a0_2 a0_3 a0_4 a0_5) else (if a0_2 > 4 then (graph_Node_check.j0 k (a0_4 != (-1)) true a0_0 l0_1 a0_2 a0_3 a0_4 a0_5) else (if a0_3 < 1 then (graph_Node_check.j0 k (a0_4 != (-1)) true a0_0 l0_1 a0_2 a0_3 a0_4 a0_5) else (graph_Node_check.j0 k (a0_4 != (-1)) (decide (a0_3 > 1048576)) a0_0 l0_1 a0_2 a0_3 a0_4 a0_5)))
theorem graph_Node_check.mono_l : ∀ k, (∀ y0 y1 y2 y3 y4 y5 y6 y7, LeO (graph_Node_check.j0 k y0 y1 y2 y3 y4 y5 y6 y7) (graph_Node_check.j0 (k + 1) y0 y1 y2 y3 y4 y5 y6 y7)) ∧ (∀ y0 y1 y2 y3 y4 y5 y6 y7, LeO (graph_Node_check.j1 k y0 y1 y2 y3 y4 y5 y6 y7) (graph_Node_check.j1 (k + 1) y0 y1 y2 y3 y4 y5 y6 y7)) ∧ (∀ y0 y1 y2 y3 y4 y5 y6 y7, LeO (graph_Node_check.j2 k y0 y1 y2 y3 y4 y5 y6 y7) (graph_Node_check.j2 (k + 1) y0 y1 y2 y3 y4 y5 y6 y7))
 | 0 => ⟨fun _ _ _ _ _ _ _ _ r h => by simp [graph_Node_check.j0] at h, fun _ _ _ _ _ _ _ _ r h => by simp [graph_Node_check.j1] at h, fun _ _ _ _ _ _ _ _ r h => by simp [graph_Node_check.j2] at h⟩
 | k + 1 => by
  obtain ⟨ih0, ih1, ih2⟩ := graph_Node_check.mono_l k
  refine ⟨?_, ?_, ?_⟩
  ·intro y0 y1 y2 y3 y4 y5 y6 y7
   unfold graph_Node_check.j0
   repeat' first
   | (with_reducible exact ih0 _ _ _ _ _ _ _ _)
   | (with_reducible exact ih1 _ _ _ _ _ _ _ _)
   | (with_reducible exact ih2 _ _ _ _ _ _ _ _)
   | (with_reducible exact LeO.refl _)
   | (with_reducible exact LeO.none _)
   | (with_reducible refine LeO.ite ?_ ?_)
   | (with_reducible refine LeO.bind ?_ (fun _ => ?_))
   | exact ih0 _ _ _ _ _ _ _ _
   | exact ih1 _ _ _ _ _ _ _ _
   | exact ih2 _ _ _ _ _ _ _ _
   | exact LeO.none _
   | refine LeO.ite ?_ ?_
   | refine LeO.bind ?_ (fun _ => ?_)
  ·intro y0 y1 y2 y3 y4 y5 y6 y7
   unfold graph_Node_check.j1
   repeat' first
   | (with_reducible exact ih0 _ _ _ _ _ _ _ _)
   | (with_reducible exact ih1 _ _ _ _ _ _ _ _)
   | (with_reducible exact ih2 _ _ _ _ _ _ _ _)
   | (with_reducible exact LeO.refl _)
   | (with_reducible exact LeO.none _)
   | (with_reducible refine LeO.ite ?_ ?_)
   | (with_reducible refine LeO.bind ?_ (fun _ => ?_))
   | exact ih0 _ _ _ _ _ _ _ _
   | exact ih1 _ _ _ _ _ _ _ _
   | exact ih2 _ _ _ _ _ _ _ _
   | exact LeO.none _
   | refine LeO.ite ?_ ?_
   | refine LeO.bind ?_ (fun _ => ?_)
  ·intro y0 y1 y2 y3 y4 y5 y6 y7
   unfold graph_Node_check.j2
   repeat' first
   | (with_reducible exact ih0 _ _ _ _ _ _ _ _)
   | (with_reducible exact ih1 _ _ _ _ _ _ _ _)
   | (with_reducible exact ih2 _ _ _ _ _ _ _ _)
   | (with_reducible exact LeO.refl _)
   | (with_reducible exact LeO.none _)
   | (with_reducible refine LeO.ite ?_ ?_)
   | (with_reducible refine LeO.bind ?_ (fun _ => ?_))
   | exact ih0 _ _ _ _ _ _ _ _
   | exact ih1 _ _ _ _ _ _ _ _
   | exact ih2 _ _ _ _ _ _ _ _
   | exact LeO.none _
   | refine LeO.ite ?_ ?_
   | refine LeO.bind ?_ (fun _ => ?_)
theorem graph_Node_check.mono : ∀ a0 a1 a2 a3 a4 a5 k, LeO (graph_Node_check.f k a0 a1 a2 a3 a4 a5) (graph_Node_check.f (k + 1) a0 a1 a2 a3 a4 a5) := by
 intro a0 a1 a2 a3 a4 a5 k
 obtain ⟨ih0, ih1, ih2⟩ := graph_Node_check.mono_l k
 unfold graph_Node_check.f
 repeat' first
   | (with_reducible exact ih0 _ _ _ _ _ _ _ _)
   | (with_reducible exact ih1 _ _ _ _ _ _ _ _)
   | (with_reducible exact ih2 _ _ _ _ _ _ _ _)
   | (with_reducible exact LeO.refl _)
   | (with_reducible exact LeO.none _)
   | (with_reducible refine LeO.ite ?_ ?_)
   | (with_reducible refine LeO.bind ?_ (fun _ => ?_))
   | exact ih0 _ _ _ _ _ _ _ _
   | exact ih1 _ _ _ _ _ _ _ _
   | exact ih2 _ _ _ _ _ _ _ _
   | exact LeO.none _
   | refine LeO.ite ?_ ?_
   | refine LeO.bind ?_ (fun _ => ?_)
set_option maxHeartbeats 8000000 in
set_option maxRecDepth 100000 in
theorem graph_Node_check.calls (k : Nat) (a0_0 : ByteArray) (A0_1 : Option Addr) (c0_1 : Nat) (l0_1 : List ByteArray) (a0_2 : Int) (a0_3 : Int) (a0_4 : Int) (a0_5 : ByteArray) (r : Int) (w : World) (hr0_1 : Kd.C Kd.string w A0_1 l0_1.length l0_1) (hc0_1 : l0_1.length ≤ c0_1) (h : graph_Node_check.f k a0_0 l0_1 a0_2 a0_3 a0_4 a0_5 = some r) :
  Calls Try.prog 51 #[.agg #[.string a0_0, .slice A0_1 l0_1.length c0_1, .int .i64 a0_2, .int .i64 a0_3, .int .i64 a0_4, .string a0_5]] w fun e w' => e = .returned (.int .i64 r) ∧ Below w.heap.size w w' := by
 have hu48 := Try.underlying48
 have HR0_1 := Aside0.mk hr0_1
 have HC0_1 := Aside0.mk hc0_1
 clear hr0_1 hc0_1
 have HB := Aside0.mk (Below.refl w.heap.size w)
 have H : (if a0_2 < 1 then (graph_Node_check.j0 k (a0_4 != (-1)) true a0_0 l0_1 a0_2 a0_3 a0_4 a0_5) else (if a0_2 > 4 then (graph_Node_check.j0 k (a0_4 != (-1)) true a0_0 l0_1 a0_2 a0_3 a0_4 a0_5) else (if a0_3 < 1 then (graph_Node_check.j0 k (a0_4 != (-1)) true a0_0 l0_1 a0_2 a0_3 a0_4 a0_5) else (graph_Node_check.j0 k (a0_4 != (-1)) (decide (a0_3 > 1048576)) a0_0 l0_1 a0_2 a0_3 a0_4 a0_5)))) = some r := h
 clear h
 have HC2 := Aside0.mk H
 clear H
 go_enter Try.func51, Try.ntmps51
 go_upto_region 2 with (first | ((with_reducible refine gate_dst (N := 1) rfl ?_); refine box_event ?hg (N := 1) ?hd (cs := #[.string a0_0, .slice A0_1 l0_1.length c0_1, .int .i64 a0_2, .int .i64 a0_3, .int .i64 a0_4, .string a0_5]) (t := 48) ?hr ?_; (case hd => rfl); (case hg => rfl); (case hr => first | (go_simp; done) | (go_simp; rfl)); intro gb109 hg w3 hbox hb; have n0_ := Aside0.mk (below_step bb hb); have n1_ := Aside0.mk (hbox); have n2_ := Aside0.mk ((by rw [hg]; exact (below_size bb) : w.heap.size ≤ gb109)); have n3_ := Aside0.mk ((by rw [hg]; exact (below_size bb) : w.heap.size ≤ gb109)); clear HB; have HB := n0_; have BK109 := n1_; have GW109 := n2_; have GE109 := n3_; clear n0_ n1_ n2_ n3_; clear hb hbox hg; have hcz4_0 : w3.cell? ⟨gb109, 0, none⟩ = some (.string a0_0) := (blk_cell BK109.out 0).trans rfl; have hcz4_1 : w3.cell? ⟨gb109, 1, none⟩ = some (.slice A0_1 l0_1.length c0_1) := (blk_cell BK109.out 1).trans rfl; have hcz4_2 : w3.cell? ⟨gb109, 2, none⟩ = some (.int .i64 a0_2) := (blk_cell BK109.out 2).trans rfl; have hcz4_3 : w3.cell? ⟨gb109, 3, none⟩ = some (.int .i64 a0_3) := (blk_cell BK109.out 3).trans rfl; have hcz4_4 : w3.cell? ⟨gb109, 4, none⟩ = some (.int .i64 a0_4) := (blk_cell BK109.out 4).trans rfl; have hcz4_5 : w3.cell? ⟨gb109, 5, none⟩ = some (.string a0_5) := (blk_cell BK109.out 5).trans rfl; have hfz4_0 := blk_frozen BK109.out 0; have hfz4_1 := blk_frozen BK109.out 1; have hfz4_2 := blk_frozen BK109.out 2; have hfz4_3 := blk_frozen BK109.out 3; have hfz4_4 := blk_frozen BK109.out 4; have hfz4_5 := blk_frozen BK109.out 5))
 (try simp only [Act.put, List.setIfInBounds_toArray, List.set_cons_zero, List.set_cons_succ])
 go_cut [7] (fun v7 wc => ∃ (kq : Nat) (x7_1 : Bool), v7 = .bool x7_1 ∧ Aside0 (graph_Node_check.j0 kq (a0_4 != (-1)) x7_1 a0_0 l0_1 a0_2 a0_3 a0_4 a0_5 = some r) ∧ Aside0 (kq ≤ k) ∧ Aside0 (wc.heap[gb109]? = some (.cells #[.string a0_0, (.slice A0_1 l0_1.length c0_1), .int .i64 a0_2, .int .i64 a0_3, .int .i64 a0_4, .string a0_5] 48 (0, 0))) ∧ Aside0 (Below w.heap.size w wc))
 case first =>
  have H := HC2.out
  clear HC2
  by_cases c5 : a0_2 < 1
  ·rw [if_pos c5] at H
   have c5b0 : decide (a0_2 < 1) = true := decide_eq_true c5
   clear c5
   (first | rw [c5b0] | (simp only [i64_w, i32_w]; rw [c5b0]) | skip)
   have H' := Aside0.mk H
   clear H
   have hcz6_0 : w3.cell? ⟨gb109, 0, none⟩ = some (.string a0_0) := (blk_cell BK109.out 0).trans rfl
   have hcz6_1 : w3.cell? ⟨gb109, 1, none⟩ = some (.slice A0_1 l0_1.length c0_1) := (blk_cell BK109.out 1).trans rfl
   have hcz6_2 : w3.cell? ⟨gb109, 2, none⟩ = some (.int .i64 a0_2) := (blk_cell BK109.out 2).trans rfl
   have hcz6_3 : w3.cell? ⟨gb109, 3, none⟩ = some (.int .i64 a0_3) := (blk_cell BK109.out 3).trans rfl
   have hcz6_4 : w3.cell? ⟨gb109, 4, none⟩ = some (.int .i64 a0_4) := (blk_cell BK109.out 4).trans rfl
   have hcz6_5 : w3.cell? ⟨gb109, 5, none⟩ = some (.string a0_5) := (blk_cell BK109.out 5).trans rfl
   have hfz6_0 := blk_frozen BK109.out 0
   have hfz6_1 := blk_frozen BK109.out 1
   have hfz6_2 := blk_frozen BK109.out 2
   have hfz6_3 := blk_frozen BK109.out 3
   have hfz6_4 := blk_frozen BK109.out 4
   have hfz6_5 := blk_frozen BK109.out 5
   go_wp2
   go_meet
   case rel => exact ⟨_, (true), (by first | rfl | (simp; done) | (simp [*]; done)), H', ⟨by first | omega | exact Nat.le_refl _⟩, ⟨by (with_reducible repeat (first | refine blk_drewN ?_ _ | refine blk_drew ?_ | refine blk_alloc ?_ _)); exact BK109.out⟩, ⟨bb⟩⟩
  ·rw [if_neg c5] at H
   have c5b0 : decide (a0_2 < 1) = false := decide_eq_false c5
   clear c5
   (first | rw [c5b0] | (simp only [i64_w, i32_w]; rw [c5b0]) | skip)
   by_cases c7 : a0_2 > 4
   ·rw [if_pos c7] at H
    have c7b0 : decide (4 < a0_2) = true := decide_eq_true c7
    clear c7
    have H' := Aside0.mk H
    clear H
    have hcz8_0 : w3.cell? ⟨gb109, 0, none⟩ = some (.string a0_0) := (blk_cell BK109.out 0).trans rfl
    have hcz8_1 : w3.cell? ⟨gb109, 1, none⟩ = some (.slice A0_1 l0_1.length c0_1) := (blk_cell BK109.out 1).trans rfl
    have hcz8_2 : w3.cell? ⟨gb109, 2, none⟩ = some (.int .i64 a0_2) := (blk_cell BK109.out 2).trans rfl
    have hcz8_3 : w3.cell? ⟨gb109, 3, none⟩ = some (.int .i64 a0_3) := (blk_cell BK109.out 3).trans rfl
    have hcz8_4 : w3.cell? ⟨gb109, 4, none⟩ = some (.int .i64 a0_4) := (blk_cell BK109.out 4).trans rfl
    have hcz8_5 : w3.cell? ⟨gb109, 5, none⟩ = some (.string a0_5) := (blk_cell BK109.out 5).trans rfl
    have hfz8_0 := blk_frozen BK109.out 0
    have hfz8_1 := blk_frozen BK109.out 1
    have hfz8_2 := blk_frozen BK109.out 2
    have hfz8_3 := blk_frozen BK109.out 3
    have hfz8_4 := blk_frozen BK109.out 4
    have hfz8_5 := blk_frozen BK109.out 5
    go_wp2
    go_meet
    case rel => exact ⟨_, (true), (by first | rfl | (simp; done) | (simp [*]; done)), H', ⟨by first | omega | exact Nat.le_refl _⟩, ⟨by (with_reducible repeat (first | refine blk_drewN ?_ _ | refine blk_drew ?_ | refine blk_alloc ?_ _)); exact BK109.out⟩, ⟨bb⟩⟩
   ·rw [if_neg c7] at H
    have c7b0 : decide (4 < a0_2) = false := decide_eq_false c7
    clear c7
    by_cases c9 : a0_3 < 1
    ·rw [if_pos c9] at H
     have c9b0 : decide (a0_3 < 1) = true := decide_eq_true c9
     clear c9
     have H' := Aside0.mk H
     clear H
     have hcz10_0 : w3.cell? ⟨gb109, 0, none⟩ = some (.string a0_0) := (blk_cell BK109.out 0).trans rfl
     have hcz10_1 : w3.cell? ⟨gb109, 1, none⟩ = some (.slice A0_1 l0_1.length c0_1) := (blk_cell BK109.out 1).trans rfl
     have hcz10_2 : w3.cell? ⟨gb109, 2, none⟩ = some (.int .i64 a0_2) := (blk_cell BK109.out 2).trans rfl
     have hcz10_3 : w3.cell? ⟨gb109, 3, none⟩ = some (.int .i64 a0_3) := (blk_cell BK109.out 3).trans rfl
     have hcz10_4 : w3.cell? ⟨gb109, 4, none⟩ = some (.int .i64 a0_4) := (blk_cell BK109.out 4).trans rfl
     have hcz10_5 : w3.cell? ⟨gb109, 5, none⟩ = some (.string a0_5) := (blk_cell BK109.out 5).trans rfl
     have hfz10_0 := blk_frozen BK109.out 0
     have hfz10_1 := blk_frozen BK109.out 1
     have hfz10_2 := blk_frozen BK109.out 2
     have hfz10_3 := blk_frozen BK109.out 3
     have hfz10_4 := blk_frozen BK109.out 4
     have hfz10_5 := blk_frozen BK109.out 5
     go_wp2
     go_meet
     case rel => exact ⟨_, (true), (by first | rfl | (simp; done) | (simp [*]; done)), H', ⟨by first | omega | exact Nat.le_refl _⟩, ⟨by (with_reducible repeat (first | refine blk_drewN ?_ _ | refine blk_drew ?_ | refine blk_alloc ?_ _)); exact BK109.out⟩, ⟨bb⟩⟩
    ·rw [if_neg c9] at H
     have c9b0 : decide (a0_3 < 1) = false := decide_eq_false c9
     clear c9
     have H' := Aside0.mk H
     clear H
     have hcz11_0 : w3.cell? ⟨gb109, 0, none⟩ = some (.string a0_0) := (blk_cell BK109.out 0).trans rfl
     have hcz11_1 : w3.cell? ⟨gb109, 1, none⟩ = some (.slice A0_1 l0_1.length c0_1) := (blk_cell BK109.out 1).trans rfl
     have hcz11_2 : w3.cell? ⟨gb109, 2, none⟩ = some (.int .i64 a0_2) := (blk_cell BK109.out 2).trans rfl
     have hcz11_3 : w3.cell? ⟨gb109, 3, none⟩ = some (.int .i64 a0_3) := (blk_cell BK109.out 3).trans rfl
     have hcz11_4 : w3.cell? ⟨gb109, 4, none⟩ = some (.int .i64 a0_4) := (blk_cell BK109.out 4).trans rfl
     have hcz11_5 : w3.cell? ⟨gb109, 5, none⟩ = some (.string a0_5) := (blk_cell BK109.out 5).trans rfl
     have hfz11_0 := blk_frozen BK109.out 0
     have hfz11_1 := blk_frozen BK109.out 1
     have hfz11_2 := blk_frozen BK109.out 2
     have hfz11_3 := blk_frozen BK109.out 3
     have hfz11_4 := blk_frozen BK109.out 4
     have hfz11_5 := blk_frozen BK109.out 5
     go_wp2
     go_meet
     case rel => exact ⟨_, (decide (a0_3 > 1048576)), (by first | rfl | (simp; done) | (simp [*]; done)), H', ⟨by first | omega | exact Nat.le_refl _⟩, ⟨by (with_reducible repeat (first | refine blk_drewN ?_ _ | refine blk_drew ?_ | refine blk_alloc ?_ _)); exact BK109.out⟩, ⟨bb⟩⟩
 case rest =>
  clear HC2
  try clear p2
  try clear c5
  try clear c5b0
  try clear c7
  try clear c7b0
  try clear c9
  try clear c9b0
  try clear hcz10_0
  try clear hcz10_1
  try clear hcz10_2
  try clear hcz10_3
  try clear hcz10_4
  try clear hcz10_5
  try clear hcz11_0
  try clear hcz11_1
  try clear hcz11_2
  try clear hcz11_3
  try clear hcz11_4
  try clear hcz11_5
  try clear hcz4_0
  try clear hcz4_1
  try clear hcz4_2
  try clear hcz4_3
  try clear hcz4_4
  try clear hcz4_5
  try clear hcz6_0
  try clear hcz6_1
  try clear hcz6_2
  try clear hcz6_3
  try clear hcz6_4
  try clear hcz6_5
  try clear hcz8_0
  try clear hcz8_1
  try clear hcz8_2
  try clear hcz8_3
  try clear hcz8_4
  try clear hcz8_5
  try clear hfz10_0
  try clear hfz10_1
  try clear hfz10_2
  try clear hfz10_3
  try clear hfz10_4
  try clear hfz10_5
  try clear hfz11_0
  try clear hfz11_1
  try clear hfz11_2
  try clear hfz11_3
  try clear hfz11_4
  try clear hfz11_5
  try clear hfz4_0
  try clear hfz4_1
  try clear hfz4_2
  try clear hfz4_3
  try clear hfz4_4
  try clear hfz4_5
  try clear hfz6_0
  try clear hfz6_1
  try clear hfz6_2
  try clear hfz6_3
  try clear hfz6_4
  try clear hfz6_5
  try clear hfz8_0
  try clear hfz8_1
  try clear hfz8_2
  try clear hfz8_3
  try clear hfz8_4
  try clear hfz8_5
  obtain ⟨kq, x7_1, rfl, HA, HJ1, BK109, HB⟩ := hcut
  cases kq with
  | zero => exact absurd HA.out (by simp [graph_Node_check.j0])
  | succ kj1 =>
   have H := HA.out
   clear HA
   simp only [graph_Node_check.j0] at H
   have HC12 := Aside0.mk H
   clear H
   go_upto_if 7 with (fail)
   go_cut [7] (fun v7 wc => ∃ (kq : Nat) (x7_11 : Bool), v7 = .bool x7_11 ∧ Aside0 (graph_Node_check.j1 kq (a0_4 != (-1)) x7_11 a0_0 l0_1 a0_2 a0_3 a0_4 a0_5 = some r) ∧ Aside0 (kq ≤ kj1) ∧ Aside0 (wc.heap[gb109]? = some (.cells #[.string a0_0, (.slice A0_1 l0_1.length c0_1), .int .i64 a0_2, .int .i64 a0_3, .int .i64 a0_4, .string a0_5] 48 (0, 0))) ∧ Aside0 (Below w.heap.size w wc))
   case first =>
    have H := HC12.out
    clear HC12
    by_cases c13 : x7_1 = true
    ·subst c13
     have H1 : (graph_Node_check.j1 kj1 (a0_4 != (-1)) true a0_0 l0_1 a0_2 a0_3 a0_4 a0_5) = some r := by rw [if_pos rfl] at H; exact H
     clear H
     have H := H1
     clear H1
     have H' := Aside0.mk H
     clear H
     go_wp2
     go_meet
     case rel => exact ⟨_, (true), (by first | rfl | (simp; done) | (simp [*]; done)), H', ⟨by have := HJ1.out; first | omega | exact Nat.le_refl _⟩, ⟨by (with_reducible repeat (first | refine blk_drewN ?_ _ | refine blk_drew ?_ | refine blk_alloc ?_ _)); exact BK109.out⟩, ⟨bb⟩⟩
    ·replace c13 := Bool.eq_false_iff.mpr c13
     subst c13
     have H1 : (if a0_4 < (-1) then (graph_Node_check.j1 kj1 (a0_4 != (-1)) true a0_0 l0_1 a0_2 a0_3 a0_4 a0_5) else (if a0_4 ≥ 8 then (graph_Node_check.j1 kj1 (a0_4 != (-1)) (decide (a0_4 ≥ 8)) a0_0 l0_1 a0_2 a0_3 a0_4 a0_5) else (graph_Node_check.j1 kj1 (a0_4 != (-1)) (decide ((l0_1.length : Int) > 12)) a0_0 l0_1 a0_2 a0_3 a0_4 a0_5))) = some r := by rw [if_neg (show ¬ (false = true) by decide)] at H; exact H
     clear H
     have H := H1
     clear H1
     by_cases c14 : a0_4 < (-1)
     ·rw [if_pos c14] at H
      have c14b0 : decide (a0_4 < (-1)) = true := decide_eq_true c14
      clear c14
      (first | rw [c14b0] | (simp only [i64_w, i32_w]; rw [c14b0]) | skip)
      have H' := Aside0.mk H
      clear H
      have hcz15_0 : wc.cell? ⟨gb109, 0, none⟩ = some (.string a0_0) := (blk_cell BK109.out 0).trans rfl
      have hcz15_1 : wc.cell? ⟨gb109, 1, none⟩ = some (.slice A0_1 l0_1.length c0_1) := (blk_cell BK109.out 1).trans rfl
      have hcz15_2 : wc.cell? ⟨gb109, 2, none⟩ = some (.int .i64 a0_2) := (blk_cell BK109.out 2).trans rfl
      have hcz15_3 : wc.cell? ⟨gb109, 3, none⟩ = some (.int .i64 a0_3) := (blk_cell BK109.out 3).trans rfl
      have hcz15_4 : wc.cell? ⟨gb109, 4, none⟩ = some (.int .i64 a0_4) := (blk_cell BK109.out 4).trans rfl
      have hcz15_5 : wc.cell? ⟨gb109, 5, none⟩ = some (.string a0_5) := (blk_cell BK109.out 5).trans rfl
      have hfz15_0 := blk_frozen BK109.out 0
      have hfz15_1 := blk_frozen BK109.out 1
      have hfz15_2 := blk_frozen BK109.out 2
      have hfz15_3 := blk_frozen BK109.out 3
      have hfz15_4 := blk_frozen BK109.out 4
      have hfz15_5 := blk_frozen BK109.out 5
      go_wp2
      go_meet
      case rel => exact ⟨_, (true), (by first | rfl | (simp; done) | (simp [*]; done)), H', ⟨by have := HJ1.out; first | omega | exact Nat.le_refl _⟩, ⟨by (with_reducible repeat (first | refine blk_drewN ?_ _ | refine blk_drew ?_ | refine blk_alloc ?_ _)); exact BK109.out⟩, ⟨bb⟩⟩
     ·rw [if_neg c14] at H
      have c14b0 : decide (a0_4 < (-1)) = false := decide_eq_false c14
      clear c14
      (first | rw [c14b0] | (simp only [i64_w, i32_w]; rw [c14b0]) | skip)
      by_cases c16 : a0_4 ≥ 8
      ·rw [if_pos c16] at H
       have c16b0 : decide (8 ≤ a0_4) = true := decide_eq_true c16
       clear c16
       have H' := Aside0.mk H
       clear H
       have hcz17_0 : wc.cell? ⟨gb109, 0, none⟩ = some (.string a0_0) := (blk_cell BK109.out 0).trans rfl
       have hcz17_1 : wc.cell? ⟨gb109, 1, none⟩ = some (.slice A0_1 l0_1.length c0_1) := (blk_cell BK109.out 1).trans rfl
       have hcz17_2 : wc.cell? ⟨gb109, 2, none⟩ = some (.int .i64 a0_2) := (blk_cell BK109.out 2).trans rfl
       have hcz17_3 : wc.cell? ⟨gb109, 3, none⟩ = some (.int .i64 a0_3) := (blk_cell BK109.out 3).trans rfl
       have hcz17_4 : wc.cell? ⟨gb109, 4, none⟩ = some (.int .i64 a0_4) := (blk_cell BK109.out 4).trans rfl
       have hcz17_5 : wc.cell? ⟨gb109, 5, none⟩ = some (.string a0_5) := (blk_cell BK109.out 5).trans rfl
       have hfz17_0 := blk_frozen BK109.out 0
       have hfz17_1 := blk_frozen BK109.out 1
       have hfz17_2 := blk_frozen BK109.out 2
       have hfz17_3 := blk_frozen BK109.out 3
       have hfz17_4 := blk_frozen BK109.out 4
       have hfz17_5 := blk_frozen BK109.out 5
       go_wp2
       go_meet
       case rel => exact ⟨_, (decide (a0_4 ≥ 8)), (by first | rfl | (simp; done) | (simp [*]; done)), H', ⟨by have := HJ1.out; first | omega | exact Nat.le_refl _⟩, ⟨by (with_reducible repeat (first | refine blk_drewN ?_ _ | refine blk_drew ?_ | refine blk_alloc ?_ _)); exact BK109.out⟩, ⟨bb⟩⟩
      ·rw [if_neg c16] at H
       have c16b0 : decide (8 ≤ a0_4) = false := decide_eq_false c16
       clear c16
       have H' := Aside0.mk H
       clear H
       have hcz18_0 : wc.cell? ⟨gb109, 0, none⟩ = some (.string a0_0) := (blk_cell BK109.out 0).trans rfl
       have hcz18_1 : wc.cell? ⟨gb109, 1, none⟩ = some (.slice A0_1 l0_1.length c0_1) := (blk_cell BK109.out 1).trans rfl
       have hcz18_2 : wc.cell? ⟨gb109, 2, none⟩ = some (.int .i64 a0_2) := (blk_cell BK109.out 2).trans rfl
       have hcz18_3 : wc.cell? ⟨gb109, 3, none⟩ = some (.int .i64 a0_3) := (blk_cell BK109.out 3).trans rfl
       have hcz18_4 : wc.cell? ⟨gb109, 4, none⟩ = some (.int .i64 a0_4) := (blk_cell BK109.out 4).trans rfl
       have hcz18_5 : wc.cell? ⟨gb109, 5, none⟩ = some (.string a0_5) := (blk_cell BK109.out 5).trans rfl
       have hfz18_0 := blk_frozen BK109.out 0
       have hfz18_1 := blk_frozen BK109.out 1
       have hfz18_2 := blk_frozen BK109.out 2
       have hfz18_3 := blk_frozen BK109.out 3
       have hfz18_4 := blk_frozen BK109.out 4
       have hfz18_5 := blk_frozen BK109.out 5
       go_wp2
       go_meet
       case rel => exact ⟨_, (decide ((l0_1.length : Int) > 12)), (by first | rfl | (simp; done) | (simp [*]; done)), H', ⟨by have := HJ1.out; first | omega | exact Nat.le_refl _⟩, ⟨by (with_reducible repeat (first | refine blk_drewN ?_ _ | refine blk_drew ?_ | refine blk_alloc ?_ _)); exact BK109.out⟩, ⟨bb⟩⟩
   case rest =>
    clear HC12
    try clear c1
    try clear p2
    try clear c5
    try clear c5b0
    try clear c7
    try clear c7b0
    try clear c9
    try clear c9b0
    try clear c13
    try clear c14
    try clear c14b0
    try clear c16
    try clear c16b0
    try clear hcz10_0
    try clear hcz10_1
    try clear hcz10_2
    try clear hcz10_3
    try clear hcz10_4
    try clear hcz10_5
    try clear hcz11_0
    try clear hcz11_1
    try clear hcz11_2
    try clear hcz11_3
    try clear hcz11_4
    try clear hcz11_5
    try clear hcz15_0
    try clear hcz15_1
    try clear hcz15_2
    try clear hcz15_3
    try clear hcz15_4
    try clear hcz15_5
    try clear hcz17_0
    try clear hcz17_1
    try clear hcz17_2
    try clear hcz17_3
    try clear hcz17_4
    try clear hcz17_5
    try clear hcz18_0
    try clear hcz18_1
    try clear hcz18_2
    try clear hcz18_3
    try clear hcz18_4
    try clear hcz18_5
    try clear hcz4_0
    try clear hcz4_1
    try clear hcz4_2
    try clear hcz4_3
    try clear hcz4_4
    try clear hcz4_5
    try clear hcz6_0
    try clear hcz6_1
    try clear hcz6_2
    try clear hcz6_3
    try clear hcz6_4
    try clear hcz6_5
    try clear hcz8_0
    try clear hcz8_1
    try clear hcz8_2
    try clear hcz8_3
    try clear hcz8_4
    try clear hcz8_5
    try clear hfz10_0
    try clear hfz10_1
    try clear hfz10_2
    try clear hfz10_3
    try clear hfz10_4
    try clear hfz10_5
    try clear hfz11_0
    try clear hfz11_1
    try clear hfz11_2
    try clear hfz11_3
    try clear hfz11_4
    try clear hfz11_5
    try clear hfz15_0
    try clear hfz15_1
    try clear hfz15_2
    try clear hfz15_3
    try clear hfz15_4
    try clear hfz15_5
    try clear hfz17_0
    try clear hfz17_1
    try clear hfz17_2
    try clear hfz17_3
    try clear hfz17_4
    try clear hfz17_5
    try clear hfz18_0
    try clear hfz18_1
    try clear hfz18_2
    try clear hfz18_3
    try clear hfz18_4
    try clear hfz18_5
    try clear hfz4_0
    try clear hfz4_1
    try clear hfz4_2
    try clear hfz4_3
    try clear hfz4_4
    try clear hfz4_5
    try clear hfz6_0
    try clear hfz6_1
    try clear hfz6_2
    try clear hfz6_3
    try clear hfz6_4
    try clear hfz6_5
    try clear hfz8_0
    try clear hfz8_1
    try clear hfz8_2
    try clear hfz8_3
    try clear hfz8_4
    try clear hfz8_5
    try clear p2
    obtain ⟨kq, x7_11, rfl, HA, HJ11, BK109, HB⟩ := hcut
    cases kq with
    | zero => exact absurd HA.out (by simp [graph_Node_check.j1])
    | succ kj11 =>
     have H := HA.out
     clear HA
     simp only [graph_Node_check.j1] at H
     by_cases c19 : x7_11 = true
     ·subst c19
      have H1 : (some 31) = some r := by rw [if_pos rfl] at H; exact H
      clear H
      have H := H1
      clear H1
      obtain rfl := Option.some.inj H
      go_wp2
      go_ret
      exact ⟨by first | rfl | (simp [errW_none, errW_some] <;> rfl) | (simp [*, errW_none, errW_some] <;> rfl), bb⟩
     ·replace c19 := Bool.eq_false_iff.mpr c19
      subst c19
      have H1 : (if (a0_4 != (-1)) = true then (graph_Node_check.j2 kj11 (a0_4 != (-1)) false a0_0 l0_1 a0_2 a0_3 a0_4 a0_5) else (graph_Node_check.j2 kj11 (a0_4 != (-1)) (a0_5.toList != ([] : List UInt8)) a0_0 l0_1 a0_2 a0_3 a0_4 a0_5)) = some r := by rw [if_neg (show ¬ (false = true) by decide)] at H; exact H
      clear H
      have H := H1
      clear H1
      have HC20 := Aside0.mk H
      clear H
      go_upto_region 6 with (fail)
      go_cut [38] (fun v38 wc => ∃ (kq : Nat) (x38_19 : Bool), v38 = .bool x38_19 ∧ Aside0 (graph_Node_check.j2 kq (a0_4 != (-1)) x38_19 a0_0 l0_1 a0_2 a0_3 a0_4 a0_5 = some r) ∧ Aside0 (kq ≤ kj11) ∧ Aside0 (wc.heap[gb109]? = some (.cells #[.string a0_0, (.slice A0_1 l0_1.length c0_1), .int .i64 a0_2, .int .i64 a0_3, .int .i64 a0_4, .string a0_5] 48 (0, 0))) ∧ Aside0 (Below w.heap.size w wc))
      case first =>
       have H := HC20.out
       clear HC20
       by_cases c21 : (a0_4 != (-1)) = true
       ·rw [if_pos c21] at H
        have c21b0 : (a0_4 != (-1)) = true := c21
        (try (have c21b1 : decide (a0_4 = (-1)) = false := by simpa using c21))
        (try (have c21b2 : (a0_4 == (-1)) = false := by simpa using c21))
        (try (have c21b3 : ¬ (a0_4 = (-1)) := by simpa using c21))
        clear c21
        skip
        have H' := Aside0.mk H
        clear H
        go_wp2
        go_meet
        case rel => exact ⟨_, (false), (by first | rfl | (simp; done) | (simp [*]; done)), H', ⟨by have := HJ1.out; have := HJ11.out; first | omega | exact Nat.le_refl _⟩, ⟨by (with_reducible repeat (first | refine blk_drewN ?_ _ | refine blk_drew ?_ | refine blk_alloc ?_ _)); exact BK109.out⟩, ⟨bb⟩⟩
       ·rw [if_neg c21] at H
        have c21b0 : (a0_4 != (-1)) = false := by simpa using c21
        (try (have c21b1 : decide (a0_4 = (-1)) = true := by simpa using c21))
        (try (have c21b2 : (a0_4 == (-1)) = true := by simpa using c21))
        clear c21
        skip
        have H' := Aside0.mk H
        clear H
        have hcz22_0 : wc.cell? ⟨gb109, 0, none⟩ = some (.string a0_0) := (blk_cell BK109.out 0).trans rfl
        have hcz22_1 : wc.cell? ⟨gb109, 1, none⟩ = some (.slice A0_1 l0_1.length c0_1) := (blk_cell BK109.out 1).trans rfl
        have hcz22_2 : wc.cell? ⟨gb109, 2, none⟩ = some (.int .i64 a0_2) := (blk_cell BK109.out 2).trans rfl
        have hcz22_3 : wc.cell? ⟨gb109, 3, none⟩ = some (.int .i64 a0_3) := (blk_cell BK109.out 3).trans rfl
        have hcz22_4 : wc.cell? ⟨gb109, 4, none⟩ = some (.int .i64 a0_4) := (blk_cell BK109.out 4).trans rfl
        have hcz22_5 : wc.cell? ⟨gb109, 5, none⟩ = some (.string a0_5) := (blk_cell BK109.out 5).trans rfl
        have hfz22_0 := blk_frozen BK109.out 0
        have hfz22_1 := blk_frozen BK109.out 1
        have hfz22_2 := blk_frozen BK109.out 2
        have hfz22_3 := blk_frozen BK109.out 3
        have hfz22_4 := blk_frozen BK109.out 4
        have hfz22_5 := blk_frozen BK109.out 5
        go_wp2
        go_meet
        case rel => exact ⟨_, ((a0_5.toList != ([] : List UInt8))), (by first | rfl | (congr 1; cases a0_5.toList <;> rfl) | (simp; done) | (simp [*]; done)), H', ⟨by have := HJ1.out; have := HJ11.out; first | omega | exact Nat.le_refl _⟩, ⟨by (with_reducible repeat (first | refine blk_drewN ?_ _ | refine blk_drew ?_ | refine blk_alloc ?_ _)); exact BK109.out⟩, ⟨bb⟩⟩
      case rest =>
       clear HC20
       try clear c1
       try clear c2
       try clear p2
       try clear c5
       try clear c5b0
       try clear c7
       try clear c7b0
       try clear c9
       try clear c9b0
       try clear c13
       try clear c14
       try clear c14b0
       try clear c16
       try clear c16b0
       try clear c19
       try clear c21
       try clear c21b0
       try clear c21b1
       try clear c21b2
       try clear hcz10_0
       try clear hcz10_1
       try clear hcz10_2
       try clear hcz10_3
       try clear hcz10_4
       try clear hcz10_5
       try clear hcz11_0
       try clear hcz11_1
       try clear hcz11_2
       try clear hcz11_3
       try clear hcz11_4
       try clear hcz11_5
       try clear hcz15_0
       try clear hcz15_1
       try clear hcz15_2
       try clear hcz15_3
       try clear hcz15_4
       try clear hcz15_5
       try clear hcz17_0
       try clear hcz17_1
       try clear hcz17_2
       try clear hcz17_3
       try clear hcz17_4
       try clear hcz17_5
       try clear hcz18_0
       try clear hcz18_1
       try clear hcz18_2
       try clear hcz18_3
       try clear hcz18_4
       try clear hcz18_5
       try clear hcz22_0
       try clear hcz22_1
       try clear hcz22_2
       try clear hcz22_3
       try clear hcz22_4
       try clear hcz22_5
       try clear hcz4_0
       try clear hcz4_1
       try clear hcz4_2
       try clear hcz4_3
       try clear hcz4_4
       try clear hcz4_5
       try clear hcz6_0
       try clear hcz6_1
       try clear hcz6_2
       try clear hcz6_3
       try clear hcz6_4
       try clear hcz6_5
       try clear hcz8_0
       try clear hcz8_1
       try clear hcz8_2
       try clear hcz8_3
       try clear hcz8_4
       try clear hcz8_5
       try clear hfz10_0
       try clear hfz10_1
       try clear hfz10_2
       try clear hfz10_3
       try clear hfz10_4
       try clear hfz10_5
       try clear hfz11_0
       try clear hfz11_1
       try clear hfz11_2
       try clear hfz11_3
       try clear hfz11_4
       try clear hfz11_5
       try clear hfz15_0
       try clear hfz15_1
       try clear hfz15_2
       try clear hfz15_3
       try clear hfz15_4
       try clear hfz15_5
       try clear hfz17_0
       try clear hfz17_1
       try clear hfz17_2
       try clear hfz17_3
       try clear hfz17_4
       try clear hfz17_5
       try clear hfz18_0
       try clear hfz18_1
       try clear hfz18_2
       try clear hfz18_3
       try clear hfz18_4
       try clear hfz18_5
       try clear hfz22_0
       try clear hfz22_1
       try clear hfz22_2
       try clear hfz22_3
       try clear hfz22_4
       try clear hfz22_5
       try clear hfz4_0
       try clear hfz4_1
       try clear hfz4_2
       try clear hfz4_3
       try clear hfz4_4
       try clear hfz4_5
       try clear hfz6_0
       try clear hfz6_1
       try clear hfz6_2
       try clear hfz6_3
       try clear hfz6_4
       try clear hfz6_5
       try clear hfz8_0
       try clear hfz8_1
       try clear hfz8_2
       try clear hfz8_3
       try clear hfz8_4
       try clear hfz8_5
       try clear p2
       obtain ⟨kq, x38_19, rfl, HA, HJ19, BK109, HB⟩ := hcut
       cases kq with
       | zero => exact absurd HA.out (by simp [graph_Node_check.j2])
       | succ kj19 =>
        have H := HA.out
        clear HA
        simp only [graph_Node_check.j2] at H
        by_cases c23 : x38_19 = true
        ·subst c23
         have H1 : (some 31) = some r := by rw [if_pos rfl] at H; exact H
         clear H
         have H := H1
         clear H1
         obtain rfl := Option.some.inj H
         go_wp2
         go_ret
         exact ⟨by first | rfl | (simp [errW_none, errW_some] <;> rfl) | (simp [*, errW_none, errW_some] <;> rfl), bb⟩
        ·replace c23 := Bool.eq_false_iff.mpr c23
         subst c23
         have H1 : (if (a0_4 != (-1)) = true then ((grant_Named.f a0_5).bind fun t110 => (if t110 = true then (if a0_2 = 1 then (some 0) else (some 31)) else (some 31))) else (some 0)) = some r := by rw [if_neg (show ¬ (false = true) by decide)] at H; exact H
         clear H
         have H := H1
         clear H1
         by_cases c24 : (a0_4 != (-1)) = true
         ·rw [if_pos c24] at H
          have c24b0 : (a0_4 != (-1)) = true := c24
          (try (have c24b1 : decide (a0_4 = (-1)) = false := by simpa using c24))
          (try (have c24b2 : (a0_4 == (-1)) = false := by simpa using c24))
          (try (have c24b3 : ¬ (a0_4 = (-1)) := by simpa using c24))
          clear c24
          replace H := Option.bind_eq_some_iff.mp H
          obtain ⟨t110, A250, H⟩ := H
          replace H : (if t110 = true then (if a0_2 = 1 then (some 0) else (some 31)) else (some 31)) = some r := H
          have A25 := Aside0.mk A250
          clear A250
          by_cases c26 : t110 = true
          ·subst c26
           have H1 : (if a0_2 = 1 then (some 0) else (some 31)) = some r := by rw [if_pos rfl] at H; exact H
           clear H
           have H := H1
           clear H1
           by_cases c27 : a0_2 = 1
           ·rw [if_pos c27] at H
            have c27b0 : (a0_2 == 1) = true := beq_iff_eq.mpr c27
            have c27b1 : (a0_2 != 1) = false := bne_eq_false_iff_eq.mpr c27
            clear c27
            obtain rfl := Option.some.inj H
            have hcz28_0 : wc.cell? ⟨gb109, 0, none⟩ = some (.string a0_0) := (blk_cell BK109.out 0).trans rfl
            have hcz28_1 : wc.cell? ⟨gb109, 1, none⟩ = some (.slice A0_1 l0_1.length c0_1) := (blk_cell BK109.out 1).trans rfl
            have hcz28_2 : wc.cell? ⟨gb109, 2, none⟩ = some (.int .i64 a0_2) := (blk_cell BK109.out 2).trans rfl
            have hcz28_3 : wc.cell? ⟨gb109, 3, none⟩ = some (.int .i64 a0_3) := (blk_cell BK109.out 3).trans rfl
            have hcz28_4 : wc.cell? ⟨gb109, 4, none⟩ = some (.int .i64 a0_4) := (blk_cell BK109.out 4).trans rfl
            have hcz28_5 : wc.cell? ⟨gb109, 5, none⟩ = some (.string a0_5) := (blk_cell BK109.out 5).trans rfl
            have hfz28_0 := blk_frozen BK109.out 0
            have hfz28_1 := blk_frozen BK109.out 1
            have hfz28_2 := blk_frozen BK109.out 2
            have hfz28_3 := blk_frozen BK109.out 3
            have hfz28_4 := blk_frozen BK109.out 4
            have hfz28_5 := blk_frozen BK109.out 5
            go_wp2_with (first | (go_at_call 49; (with_reducible refine (grant_Named.calls a0_5 true _ A25.out).mono ?_); rintro e w29 ⟨rfl, hb⟩; have n0_ := Aside0.mk (blk_below (rb BK109.out) hb); have n1_ := Aside0.mk (below_step bb hb); clear BK109; clear HB; have BK109 := n0_; have HB := n1_; clear n0_ n1_; (try clear hb); (try clear hb2); (try clear hk); (try clear hi); have hcz30_0 : w29.cell? ⟨gb109, 0, none⟩ = some (.string a0_0) := (blk_cell BK109.out 0).trans rfl; have hcz30_1 : w29.cell? ⟨gb109, 1, none⟩ = some (.slice A0_1 l0_1.length c0_1) := (blk_cell BK109.out 1).trans rfl; have hcz30_2 : w29.cell? ⟨gb109, 2, none⟩ = some (.int .i64 a0_2) := (blk_cell BK109.out 2).trans rfl; have hcz30_3 : w29.cell? ⟨gb109, 3, none⟩ = some (.int .i64 a0_3) := (blk_cell BK109.out 3).trans rfl; have hcz30_4 : w29.cell? ⟨gb109, 4, none⟩ = some (.int .i64 a0_4) := (blk_cell BK109.out 4).trans rfl; have hcz30_5 : w29.cell? ⟨gb109, 5, none⟩ = some (.string a0_5) := (blk_cell BK109.out 5).trans rfl; have hfz30_0 := blk_frozen BK109.out 0; have hfz30_1 := blk_frozen BK109.out 1; have hfz30_2 := blk_frozen BK109.out 2; have hfz30_3 := blk_frozen BK109.out 3; have hfz30_4 := blk_frozen BK109.out 4; have hfz30_5 := blk_frozen BK109.out 5))
            go_ret
            exact ⟨by first | rfl | (simp [errW_none, errW_some] <;> rfl) | (simp [*, errW_none, errW_some] <;> rfl), bb⟩
           ·rw [if_neg c27] at H
            have c27b0 : (a0_2 == 1) = false := beq_eq_false_iff_ne.mpr c27
            have c27b1 : (a0_2 != 1) = true := bne_iff_ne.mpr c27
            obtain rfl := Option.some.inj H
            have hcz31_0 : wc.cell? ⟨gb109, 0, none⟩ = some (.string a0_0) := (blk_cell BK109.out 0).trans rfl
            have hcz31_1 : wc.cell? ⟨gb109, 1, none⟩ = some (.slice A0_1 l0_1.length c0_1) := (blk_cell BK109.out 1).trans rfl
            have hcz31_2 : wc.cell? ⟨gb109, 2, none⟩ = some (.int .i64 a0_2) := (blk_cell BK109.out 2).trans rfl
            have hcz31_3 : wc.cell? ⟨gb109, 3, none⟩ = some (.int .i64 a0_3) := (blk_cell BK109.out 3).trans rfl
            have hcz31_4 : wc.cell? ⟨gb109, 4, none⟩ = some (.int .i64 a0_4) := (blk_cell BK109.out 4).trans rfl
            have hcz31_5 : wc.cell? ⟨gb109, 5, none⟩ = some (.string a0_5) := (blk_cell BK109.out 5).trans rfl
            have hfz31_0 := blk_frozen BK109.out 0
            have hfz31_1 := blk_frozen BK109.out 1
            have hfz31_2 := blk_frozen BK109.out 2
            have hfz31_3 := blk_frozen BK109.out 3
            have hfz31_4 := blk_frozen BK109.out 4
            have hfz31_5 := blk_frozen BK109.out 5
            go_wp2_with (first | (go_at_call 49; (with_reducible refine (grant_Named.calls a0_5 true _ A25.out).mono ?_); rintro e w32 ⟨rfl, hb⟩; have n0_ := Aside0.mk (blk_below (rb BK109.out) hb); have n1_ := Aside0.mk (below_step bb hb); clear BK109; clear HB; have BK109 := n0_; have HB := n1_; clear n0_ n1_; (try clear hb); (try clear hb2); (try clear hk); (try clear hi); have hcz33_0 : w32.cell? ⟨gb109, 0, none⟩ = some (.string a0_0) := (blk_cell BK109.out 0).trans rfl; have hcz33_1 : w32.cell? ⟨gb109, 1, none⟩ = some (.slice A0_1 l0_1.length c0_1) := (blk_cell BK109.out 1).trans rfl; have hcz33_2 : w32.cell? ⟨gb109, 2, none⟩ = some (.int .i64 a0_2) := (blk_cell BK109.out 2).trans rfl; have hcz33_3 : w32.cell? ⟨gb109, 3, none⟩ = some (.int .i64 a0_3) := (blk_cell BK109.out 3).trans rfl; have hcz33_4 : w32.cell? ⟨gb109, 4, none⟩ = some (.int .i64 a0_4) := (blk_cell BK109.out 4).trans rfl; have hcz33_5 : w32.cell? ⟨gb109, 5, none⟩ = some (.string a0_5) := (blk_cell BK109.out 5).trans rfl; have hfz33_0 := blk_frozen BK109.out 0; have hfz33_1 := blk_frozen BK109.out 1; have hfz33_2 := blk_frozen BK109.out 2; have hfz33_3 := blk_frozen BK109.out 3; have hfz33_4 := blk_frozen BK109.out 4; have hfz33_5 := blk_frozen BK109.out 5))
            go_ret
            exact ⟨by first | rfl | (simp [errW_none, errW_some] <;> rfl) | (simp [*, errW_none, errW_some] <;> rfl), bb⟩
          ·replace c26 := Bool.eq_false_iff.mpr c26
           subst c26
           have H1 : (some 31) = some r := by rw [if_neg (show ¬ (false = true) by decide)] at H; exact H
           clear H
           have H := H1
           clear H1
           obtain rfl := Option.some.inj H
           have hcz34_0 : wc.cell? ⟨gb109, 0, none⟩ = some (.string a0_0) := (blk_cell BK109.out 0).trans rfl
           have hcz34_1 : wc.cell? ⟨gb109, 1, none⟩ = some (.slice A0_1 l0_1.length c0_1) := (blk_cell BK109.out 1).trans rfl
           have hcz34_2 : wc.cell? ⟨gb109, 2, none⟩ = some (.int .i64 a0_2) := (blk_cell BK109.out 2).trans rfl
           have hcz34_3 : wc.cell? ⟨gb109, 3, none⟩ = some (.int .i64 a0_3) := (blk_cell BK109.out 3).trans rfl
           have hcz34_4 : wc.cell? ⟨gb109, 4, none⟩ = some (.int .i64 a0_4) := (blk_cell BK109.out 4).trans rfl
           have hcz34_5 : wc.cell? ⟨gb109, 5, none⟩ = some (.string a0_5) := (blk_cell BK109.out 5).trans rfl
           have hfz34_0 := blk_frozen BK109.out 0
           have hfz34_1 := blk_frozen BK109.out 1
           have hfz34_2 := blk_frozen BK109.out 2
           have hfz34_3 := blk_frozen BK109.out 3
           have hfz34_4 := blk_frozen BK109.out 4
           have hfz34_5 := blk_frozen BK109.out 5
           go_wp2_with (first | (go_at_call 49; (with_reducible refine (grant_Named.calls a0_5 false _ A25.out).mono ?_); rintro e w35 ⟨rfl, hb⟩; have n0_ := Aside0.mk (blk_below (rb BK109.out) hb); have n1_ := Aside0.mk (below_step bb hb); clear BK109; clear HB; have BK109 := n0_; have HB := n1_; clear n0_ n1_; (try clear hb); (try clear hb2); (try clear hk); (try clear hi)))
           go_ret
           exact ⟨by first | rfl | (simp [errW_none, errW_some] <;> rfl) | (simp [*, errW_none, errW_some] <;> rfl), bb⟩
         ·rw [if_neg c24] at H
          have c24b0 : (a0_4 != (-1)) = false := by simpa using c24
          (try (have c24b1 : decide (a0_4 = (-1)) = true := by simpa using c24))
          (try (have c24b2 : (a0_4 == (-1)) = true := by simpa using c24))
          clear c24
          obtain rfl := Option.some.inj H
          go_wp2
          go_ret
          exact ⟨by first | rfl | (simp [errW_none, errW_some] <;> rfl) | (simp [*, errW_none, errW_some] <;> rfl), bb⟩

end Go.Proofs.Ytjicfkmpgogppaa.PG
