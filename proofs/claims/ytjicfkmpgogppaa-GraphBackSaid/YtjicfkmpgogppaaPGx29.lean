-- printed by a program of this session out of the translation; see NOTES.md
import Derived.Test.YtjicfkmpgogppaaPGx0
import Derived.Test.YtjicfkmpgogppaaPGx28
import Derived.Test.YtjicfkmpgogppaaRb
namespace Go.Proofs.Ytjicfkmpgogppaa.PG
open Go.RowKit Go.Proofs.YtjicfkmpgogppaaW.PrintWords Go.Proofs.YtjicfkmpgogppaaW.PrintLast Go.Proofs.YtjicfkmpgogppaaW.PrintMore Go.Proofs.YtjicfkmpgogppaaRb
attribute [local go_sem] max2_int min2_int max_two min_two max_three min_three max_four min_four   -- for this text's walks alone
set_option linter.unusedVariables false
set_option linter.unusedSimpArgs false

/-! ### graph_Value: function 25 -/
mutual
def graph_Value.l0 : Nat → List (S54) → List (S48) → Int → Int → ByteArray → List (S48) → Option (Int × Int × ByteArray × (List (S54)))
 | 0, _, _, _, _, _, _ => none
 | k + 1, x3, x10, x11, x12, x367000, x367001 => if x12 < x11 then (if 0 ≤ x12 then (if x12 < (x10.length : Int) then (graph_Value.l1 k x3 ([] : List (S54)) x10 x11 x12 ((rd_T48 x10 x12).f1) (((rd_T48 x10 x12).f1).length : Int) 0 x367000 x367001 ((rd_T48 x10 x12).f0) ((rd_T48 x10 x12).f1) ((rd_T48 x10 x12).f2) ((rd_T48 x10 x12).f3) ((rd_T48 x10 x12).f4) ((rd_T48 x10 x12).f5)) else (none)) else (none)) else ((pack_Str.f x367000).bind fun bt368 => ((pack_All.f x3).bind fun bt374 => ((pack_All.f (([(⟨bt368.1, bt368.2.1, bt368.2.2.1, bt368.2.2.2⟩ : S54), (⟨bt374.1, bt374.2.1, bt374.2.2.1, bt374.2.2.2⟩ : S54)] : List (S54)))).bind fun bt383 => (some (bt383.1, bt383.2.1, bt383.2.2.1, bt383.2.2.2)))))
def graph_Value.l1 : Nat → List (S54) → List (S54) → List (S48) → Int → Int → List ByteArray → Int → Int → ByteArray → List (S48) → ByteArray → List ByteArray → Int → Int → Int → ByteArray → Option (Int × Int × ByteArray × (List (S54)))
 | 0, _, _, _, _, _, _, _, _, _, _, _, _, _, _, _, _ => none
 | k + 1, x3, x6, x10, x11, x12, x17, x18, x19, x367000, x367001, x391000, x391001, x391002, x391003, x391004, x391005 => if x19 < x18 then (if 0 ≤ x19 then (if x19 < (x17.length : Int) then ((pack_Str.f (rdOf ByteArray.empty x17 x19)).bind fun bt392 => (if x6.length < 2513169434916 then (graph_Value.l1 k x3 (x6 ++ [(⟨bt392.1, bt392.2.1, bt392.2.2.1, bt392.2.2.2⟩ : S54)]) x10 x11 x12 x17 x18 (wrap64 (x19 + 1)) x367000 x367001 x391000 x391001 x391002 x391003 x391004 x391005) else (none))) else (none)) else (none)) else ((pack_Str.f x391000).bind fun bt401 => ((pack_All.f x6).bind fun bt407 => ((pack_Num.f x391002).bind fun bt413 => ((pack_Num.f x391003).bind fun bt419 => ((pack_Num.f x391004).bind fun bt425 => ((pack_Str.f x391005).bind fun bt431 => ((pack_All.f (([(⟨bt401.1, bt401.2.1, bt401.2.2.1, bt401.2.2.2⟩ : S54), (⟨bt407.1, bt407.2.1, bt407.2.2.1, bt407.2.2.2⟩ : S54), (⟨bt413.1, bt413.2.1, bt413.2.2.1, bt413.2.2.2⟩ : S54), (⟨bt419.1, bt419.2.1, bt419.2.2.1, bt419.2.2.2⟩ : S54), (⟨bt425.1, bt425.2.1, bt425.2.2.1, bt425.2.2.2⟩ : S54), (⟨bt431.1, bt431.2.1, bt431.2.2.1, bt431.2.2.2⟩ : S54)] : List (S54)))).bind fun bt440 => (if x3.length < 2513169434916 then (graph_Value.l0 k (x3 ++ [(⟨bt440.1, bt440.2.1, bt440.2.2.1, bt440.2.2.2⟩ : S54)]) x10 x11 (wrap64 (x12 + 1)) x367000 x367001) else (none)))))))))
end
def graph_Value.f (k : Nat) (a0_0 : ByteArray) (l0_1 : List (S48)) : Option (Int × Int × ByteArray × (List (S54))) := graph_Value.l0 k ([] : List (S54)) l0_1 (l0_1.length : Int) 0 a0_0 l0_1
theorem graph_Value.mono_l : ∀ k, (∀ y0 y1 y2 y3 y4 y5, LeO (graph_Value.l0 k y0 y1 y2 y3 y4 y5) (graph_Value.l0 (k + 1) y0 y1 y2 y3 y4 y5)) ∧ (∀ y0 y1 y2 y3 y4 y5 y6 y7 y8 y9 y10 y11 y12 y13 y14 y15, LeO (graph_Value.l1 k y0 y1 y2 y3 y4 y5 y6 y7 y8 y9 y10 y11 y12 y13 y14 y15) (graph_Value.l1 (k + 1) y0 y1 y2 y3 y4 y5 y6 y7 y8 y9 y10 y11 y12 y13 y14 y15))
 | 0 => ⟨fun _ _ _ _ _ _ r h => by simp [graph_Value.l0] at h, fun _ _ _ _ _ _ _ _ _ _ _ _ _ _ _ _ r h => by simp [graph_Value.l1] at h⟩
 | k + 1 => by
  obtain ⟨ih0, ih1⟩ := graph_Value.mono_l k
  refine ⟨?_, ?_⟩
  ·intro y0 y1 y2 y3 y4 y5
   unfold graph_Value.l0
   repeat' first
   | (with_reducible exact ih0 _ _ _ _ _ _)
   | (with_reducible exact ih1 _ _ _ _ _ _ _ _ _ _ _ _ _ _ _ _)
   | (with_reducible exact LeO.refl _)
   | (with_reducible exact LeO.none _)
   | (with_reducible refine LeO.ite ?_ ?_)
   | (with_reducible refine LeO.bind ?_ (fun _ => ?_))
   | exact ih0 _ _ _ _ _ _
   | exact ih1 _ _ _ _ _ _ _ _ _ _ _ _ _ _ _ _
   | exact LeO.none _
   | refine LeO.ite ?_ ?_
   | refine LeO.bind ?_ (fun _ => ?_)
  ·intro y0 y1 y2 y3 y4 y5 y6 y7 y8 y9 y10 y11 y12 y13 y14 y15
   unfold graph_Value.l1
   repeat' first
   | (with_reducible exact ih0 _ _ _ _ _ _)
   | (with_reducible exact ih1 _ _ _ _ _ _ _ _ _ _ _ _ _ _ _ _)
   | (with_reducible exact LeO.refl _)
   | (with_reducible exact LeO.none _)
   | (with_reducible refine LeO.ite ?_ ?_)
   | (with_reducible refine LeO.bind ?_ (fun _ => ?_))
   | exact ih0 _ _ _ _ _ _
   | exact ih1 _ _ _ _ _ _ _ _ _ _ _ _ _ _ _ _
   | exact LeO.none _
   | refine LeO.ite ?_ ?_
   | refine LeO.bind ?_ (fun _ => ?_)
theorem graph_Value.mono : ∀ a0 a1 k, LeO (graph_Value.f k a0 a1) (graph_Value.f (k + 1) a0 a1) := by
 intro a0 a1 k
 obtain ⟨ih0, ih1⟩ := graph_Value.mono_l k
 unfold graph_Value.f
 repeat' first
   | (with_reducible exact ih0 _ _ _ _ _ _)
   | (with_reducible exact ih1 _ _ _ _ _ _ _ _ _ _ _ _ _ _ _ _)
   | (with_reducible exact LeO.refl _)
   | (with_reducible exact LeO.none _)
   | (with_reducible refine LeO.ite ?_ ?_)
   | (with_reducible refine LeO.bind ?_ (fun _ => ?_))
   | exact ih0 _ _ _ _ _ _
   | exact ih1 _ _ _ _ _ _ _ _ _ _ _ _ _ _ _ _
   | exact LeO.none _
   | refine LeO.ite ?_ ?_
   | refine LeO.bind ?_ (fun _ => ?_)
def graph_Value.T11 : Bool × List (List Nat × List Nat) := (true, [([], []), ([], []), ([1], [1]), ([2], [2]), ([], []), ([4, 3], [4]), ([], []), ([6], [6]), ([7, 5], [7]), ([], []), ([9], [9]), ([10, 8], [10]), ([], []), ([12], [12]), ([13, 11], [13]), ([], []), ([15], [15]), ([16, 14], [16]), ([3, 5, 8, 11, 14, 17], [3, 5, 8, 11, 14, 17]), ([18, 17], [18]), ([19], [19]), ([0, 20, 19], [0, 20]), ([21, 21, 0, 1, 2, 3, 4, 5, 6, 7, 8, 9, 10, 11, 12, 13, 14, 15, 16, 17, 18, 19, 20, 21], [0, 21])])
def graph_Value.B11 : List Nat := [0, 0, 2, 6, 0, 30, 0, 64, 254, 0, 512, 2046, 0, 4096, 16382, 0, 32768, 131070, 262142, 524286, 1048574, 2097151, 4194303]
theorem graph_Value.tab11 : rtab .any (opsOf Try.f25 11) = graph_Value.T11 := by kernel_rfl
theorem graph_Value.bits11 : waitsOk graph_Value.T11.2 graph_Value.B11 = true := by kernel_rfl
set_option maxHeartbeats 8000000 in
set_option maxRecDepth 100000 in
theorem graph_Value.calls (k : Nat) (a0_0 : ByteArray) (A0_1 : Option Addr) (c0_1 : Nat) (l0_1 : List (S48)) (r1 : Int) (r2 : Int) (r3 : ByteArray) (r4 : List (S54)) (w : World) (hr0_1 : Kd.C k48 w A0_1 l0_1.length l0_1) (hc0_1 : l0_1.length ≤ c0_1) (h : graph_Value.f k a0_0 l0_1 = some (r1, r2, r3, r4)) :
  Calls Try.prog 25 #[.agg #[.string a0_0, .slice A0_1 l0_1.length c0_1]] w fun e w' => ∃ v3_ : Value, e = .returned (.agg #[.int .i64 r1, .int .i64 r2, .string r3, v3_]) ∧ Kd.N k54 54 w' w.heap.size (fun k_ => (w.heap.size ≤ k_)) v3_ r4 ∧ Below w.heap.size w w' := by
 have hu27 := Try.underlying27
 have hu54 := Try.underlying54
 have hu48 := Try.underlying48
 have HR0_1 := Aside0.mk hr0_1
 have HC0_1 := Aside0.mk hc0_1
 clear hr0_1 hc0_1
 have HB := Aside0.mk (Below.refl w.heap.size w)
 have H : (graph_Value.l0 k ([] : List (S54)) l0_1 (l0_1.length : Int) 0 a0_0 l0_1) = some (r1, r2, r3, r4) := h
 clear h
 have H' := Aside0.mk H
 clear H
 go_enter Try.func25, Try.ntmps25
 go_wp2_with (first | ((with_reducible refine gate_dst (N := 1) rfl ?_); refine box_event ?hg (N := 1) ?hd (cs := #[.string a0_0, .slice A0_1 l0_1.length c0_1]) (t := 27) ?hr ?_; (case hd => rfl); (case hg => rfl); (case hr => first | (go_simp; done) | (go_simp; rfl)); intro gb366 hg w2 hbox hb; have n0_ := Aside0.mk (below_step bb hb); have n1_ := Aside0.mk (hbox); have n2_ := Aside0.mk ((by rw [hg]; exact (below_size bb) : w.heap.size ≤ gb366)); have n3_ := Aside0.mk ((by rw [hg]; exact (below_size bb) : w.heap.size ≤ gb366)); clear HB; have HB := n0_; have BK366 := n1_; have GW366 := n2_; have GE366 := n3_; clear n0_ n1_ n2_ n3_; clear hb hbox hg) | ((with_reducible refine gate_dst (N := 2) rfl ?_); refine box_event ?hg (N := 2) ?hd (cs := #[.int .i64 0, .int .i64 0, .string (⟨#[]⟩ : ByteArray), .slice none 0 0]) (t := 54) ?hr ?_; (case hd => rfl); (case hg => rfl); (case hr => first | (go_simp; done) | (go_simp; rfl)); intro gb367 hg w3 hbox hb; have n0_ := Aside0.mk (blk_below (rb BK366.out) hb); have n1_ := Aside0.mk (below_step bb hb); have n2_ := Aside0.mk (hbox); have n3_ := Aside0.mk ((by rw [hg]; exact (below_size bb) : w.heap.size ≤ gb367)); have n4_ := Aside0.mk ((by rw [hg]; exact (below_size bb) : w.heap.size ≤ gb367)); have n5_ := Aside0.mk ((by rw [hg]; exact Nat.ne_of_lt (blk_lt (rb BK366.out)) : gb366 ≠ gb367)); have n6_ := Aside0.mk ((by rw [hg]; exact Nat.ne_of_gt (blk_lt (rb BK366.out)) : gb367 ≠ gb366)); clear BK366; clear HB; have BK366 := n0_; have HB := n1_; have BK367 := n2_; have GW367 := n3_; have GE367 := n4_; have NB366_367 := n5_; have NB367_366 := n6_; clear n0_ n1_ n2_ n3_ n4_ n5_ n6_; clear hb hbox hg; have hnb4 := NB366_367.out; have hnc4 := NB367_366.out; have hcz5_0 : w3.cell? ⟨gb366, 0, none⟩ = some (.string a0_0) := (blk_cell BK366.out 0).trans rfl; have hcz5_1 : w3.cell? ⟨gb366, 1, none⟩ = some (.slice A0_1 l0_1.length c0_1) := (blk_cell BK366.out 1).trans rfl; have hfz5_0 := blk_frozen BK366.out 0; have hfz5_1 := blk_frozen BK366.out 1))
 go_loopg [3, 12] k (fun kq v3 v12 w' => ∃ (x3_1 : List (S54)) (x12_1 : Int), v12 = .int .i64 x12_1 ∧ Aside0 (graph_Value.l0 kq x3_1 l0_1 (l0_1.length : Int) x12_1 a0_0 l0_1 = some (r1, r2, r3, r4)) ∧ Aside0 (kq ≤ k) ∧ Aside0 (Kd.N k54 54 w' w.heap.size (fun k_ => (w.heap.size ≤ k_) ∧ k_ ≠ gb366 ∧ k_ ≠ gb367) v3 x3_1) ∧ Aside0 (w'.heap[gb366]? = some (.cells #[.string a0_0, (.slice A0_1 l0_1.length c0_1)] 27 (0, 0))) ∧ Aside0 (w'.heap[gb367]? = some (.cells #[.int .i64 0, .int .i64 0, .string (⟨#[]⟩ : ByteArray), (.slice none 0 0)] 54 (0, 0))) ∧ Aside0 (Below w.heap.size w w'))
 case atStart => exact ⟨(([] : List (S54))), (0), (by first | rfl | (simp; done) | (simp [*]; done)), H', ⟨Nat.le_refl _⟩, ⟨kn⟩, ⟨by (with_reducible repeat (first | refine blk_drewN ?_ _ | refine blk_drew ?_ | refine blk_alloc ?_ _)); exact BK366.out⟩, ⟨by (with_reducible repeat (first | refine blk_drewN ?_ _ | refine blk_drew ?_ | refine blk_alloc ?_ _)); exact BK367.out⟩, ⟨bb⟩⟩
 case round =>
  clear H'
  try clear c2
  try clear p2
  try clear c4
  try clear hcz5_0
  try clear hcz5_1
  try clear hfz5_0
  try clear hfz5_1
  obtain ⟨x3_1, x12_1, rfl, HA, HK1, HO_3, BK366, BK367, HB⟩ := hrel
  cases gk with
  | zero => exact absurd HA.out (by simp [graph_Value.l0])
  | succ k1 =>
   have H := HA.out
   clear HA
   simp only [graph_Value.l0] at H
   by_cases c6 : x12_1 < (l0_1.length : Int)
   ·rw [if_pos c6] at H
    have c6b0 : decide (x12_1 < (l0_1.length : Int)) = true := decide_eq_true c6
    clear c6
    by_cases c7 : 0 ≤ x12_1
    ·rw [if_pos c7] at H
     have c7b0 : decide (0 ≤ x12_1) = true := decide_eq_true c7
     clear c7
     by_cases c8 : x12_1 < (l0_1.length : Int)
     ·rw [if_pos c8] at H
      have c8b0 : decide (x12_1 < (l0_1.length : Int)) = true := decide_eq_true c8
      clear c8
      have H' := Aside0.mk H
      clear H
      have p389 : 0 ≤ (x12_1 : Int) := of_decide_eq_true (by first | (with_reducible assumption) | assumption)
      have q389 : x12_1 < (l0_1.length : Int) := of_decide_eq_true (by first | (with_reducible assumption) | assumption)
      obtain ⟨ad389, A389_1, c389_1, e389, hx389_0, hx389_1, hx389_2, hx389_3, hx389_4, hx389_5, hl389_1, hi389_1⟩ := at_T48 HR0_1.out x12_1 p389 q389
      cases e389
      replace hx389_0 := (HB.out.cell (World.block_lt_of_cell? w _ hx389_0)).trans hx389_0
      replace hx389_1 := (HB.out.cell (World.block_lt_of_cell? w _ hx389_1)).trans hx389_1
      replace hx389_2 := (HB.out.cell (World.block_lt_of_cell? w _ hx389_2)).trans hx389_2
      replace hx389_3 := (HB.out.cell (World.block_lt_of_cell? w _ hx389_3)).trans hx389_3
      replace hx389_4 := (HB.out.cell (World.block_lt_of_cell? w _ hx389_4)).trans hx389_4
      replace hx389_5 := (HB.out.cell (World.block_lt_of_cell? w _ hx389_5)).trans hx389_5
      have HR389_1 := Aside0.mk hi389_1
      have HC389_1 := Aside0.mk hl389_1
      clear hi389_1 hl389_1
      replace p389 := eq_true p389
      replace q389 := eq_true q389
      go_wp2_with (first | ((with_reducible refine gate_dst (N := 5) rfl ?_); refine box_event ?hg (N := 5) ?hd (cs := #[.string (⟨#[]⟩ : ByteArray), .slice none 0 0, .int .i64 0, .int .i64 0, .int .i64 0, .string (⟨#[]⟩ : ByteArray)]) (t := 48) ?hr ?_; (case hd => rfl); (case hg => rfl); (case hr => first | (go_simp; done) | (go_simp; rfl)); intro gb390 hg w9 hbox hb; have n0_ := Aside0.mk (Kd.N_below (Kd.N_elderB (kN HO_3.out) gb390 (Nat.le_of_eq hg.symm)) hb); have n1_ := Aside0.mk (blk_below (rb BK366.out) hb); have n2_ := Aside0.mk (blk_below (g := gb367) (o := .cells #[.int .i64 0, .int .i64 0, .string (⟨#[]⟩ : ByteArray), .slice none 0 0] 54 (0, 0)) (rb BK367.out) hb); have n3_ := Aside0.mk (below_step bb hb); have n4_ := Aside0.mk (hbox); have n5_ := Aside0.mk ((by rw [hg]; exact (below_size bb) : w.heap.size ≤ gb390)); have n6_ := Aside0.mk ((by rw [hg]; exact (below_size bb) : w.heap.size ≤ gb390)); have n7_ := Aside0.mk ((by rw [hg]; exact Nat.ne_of_lt (blk_lt (rb BK366.out)) : gb366 ≠ gb390)); have n8_ := Aside0.mk ((by rw [hg]; exact Nat.ne_of_gt (blk_lt (rb BK366.out)) : gb390 ≠ gb366)); have n9_ := Aside0.mk ((by rw [hg]; exact Nat.ne_of_lt (blk_lt (g := gb367) (o := .cells #[.int .i64 0, .int .i64 0, .string (⟨#[]⟩ : ByteArray), .slice none 0 0] 54 (0, 0)) (rb BK367.out)) : gb367 ≠ gb390)); have n10_ := Aside0.mk ((by rw [hg]; exact Nat.ne_of_gt (blk_lt (g := gb367) (o := .cells #[.int .i64 0, .int .i64 0, .string (⟨#[]⟩ : ByteArray), .slice none 0 0] 54 (0, 0)) (rb BK367.out)) : gb390 ≠ gb367)); clear HO_3; clear BK366; clear BK367; clear HB; have HO_3 := n0_; have BK366 := n1_; have BK367 := n2_; have HB := n3_; have BK390 := n4_; have GW390 := n5_; have GE390 := n6_; have NB366_390 := n7_; have NB390_366 := n8_; have NB367_390 := n9_; have NB390_367 := n10_; clear n0_ n1_ n2_ n3_ n4_ n5_ n6_ n7_ n8_ n9_ n10_; clear hb hbox hg; have hnb10 := NB390_366.out; have hnc10 := NB366_390.out; have hnb11 := NB390_367.out; have hnc11 := NB367_390.out; have hcz12_0 : w9.cell? ⟨gb390, 0, none⟩ = some (.string (⟨#[]⟩ : ByteArray)) := (blk_cell BK390.out 0).trans rfl; have hcz12_1 : w9.cell? ⟨gb390, 1, none⟩ = some (.slice none 0 0) := (blk_cell BK390.out 1).trans rfl; have hcz12_2 : w9.cell? ⟨gb390, 2, none⟩ = some (.int .i64 0) := (blk_cell BK390.out 2).trans rfl; have hcz12_3 : w9.cell? ⟨gb390, 3, none⟩ = some (.int .i64 0) := (blk_cell BK390.out 3).trans rfl; have hcz12_4 : w9.cell? ⟨gb390, 4, none⟩ = some (.int .i64 0) := (blk_cell BK390.out 4).trans rfl; have hcz12_5 : w9.cell? ⟨gb390, 5, none⟩ = some (.string (⟨#[]⟩ : ByteArray)) := (blk_cell BK390.out 5).trans rfl; have hfz12_0 := blk_frozen BK390.out 0; have hfz12_1 := blk_frozen BK390.out 1; have hfz12_2 := blk_frozen BK390.out 2; have hfz12_3 := blk_frozen BK390.out 3; have hfz12_4 := blk_frozen BK390.out 4; have hfz12_5 := blk_frozen BK390.out 5))
      go_loopg [6, 19] k1 (fun kq v6 v19 w' => ∃ (x6_2 : List (S54)) (x19_2 : Int), v19 = .int .i64 x19_2 ∧ Aside0 (graph_Value.l1 kq x3_1 x6_2 l0_1 (l0_1.length : Int) x12_1 ((rd_T48 l0_1 x12_1).f1) (((rd_T48 l0_1 x12_1).f1).length : Int) x19_2 a0_0 l0_1 ((rd_T48 l0_1 x12_1).f0) ((rd_T48 l0_1 x12_1).f1) ((rd_T48 l0_1 x12_1).f2) ((rd_T48 l0_1 x12_1).f3) ((rd_T48 l0_1 x12_1).f4) ((rd_T48 l0_1 x12_1).f5) = some (r1, r2, r3, r4)) ∧ Aside0 (kq ≤ k1) ∧ Aside0 (Kd.N k54 54 w' w.heap.size (fun k_ => (w.heap.size ≤ k_) ∧ some k_ ≠ (v6 : Value).ownBlock ∧ k_ ≠ gb366 ∧ k_ ≠ gb367 ∧ k_ ≠ gb390) u3 x3_1) ∧ Aside0 (Kd.N k54 54 w' w.heap.size (fun k_ => (w.heap.size ≤ k_) ∧ some k_ ≠ (u3 : Value).ownBlock ∧ k_ ≠ gb366 ∧ k_ ≠ gb367 ∧ k_ ≠ gb390) v6 x6_2) ∧ Aside0 (w'.heap[gb366]? = some (.cells #[.string a0_0, (.slice (some ad389) l0_1.length c0_1)] 27 (0, 0))) ∧ Aside0 (w'.heap[gb367]? = some (.cells #[.int .i64 0, .int .i64 0, .string (⟨#[]⟩ : ByteArray), (.slice none 0 0)] 54 (0, 0))) ∧ Aside0 (w'.heap[gb390]? = some (.cells #[.string ((rd_T48 l0_1 x12_1).f0), (.slice A389_1 ((rd_T48 l0_1 x12_1).f1).length c389_1), .int .i64 ((rd_T48 l0_1 x12_1).f2), .int .i64 ((rd_T48 l0_1 x12_1).f3), .int .i64 ((rd_T48 l0_1 x12_1).f4), .string ((rd_T48 l0_1 x12_1).f5)] 48 (0, 0))) ∧ Aside0 (Below w.heap.size w w'))
      case atStart => exact ⟨(([] : List (S54))), (0), (by first | rfl | (simp; done) | (simp [*]; done)), H', ⟨Nat.le_refl _⟩, ⟨kN (Kd.N_mono (Kd.N_far (p := ⟨gb390, 5, none⟩) (Kd.N_far (p := ⟨gb390, 4, none⟩) (Kd.N_far (p := ⟨gb390, 3, none⟩) (Kd.N_far (p := ⟨gb390, 2, none⟩) (Kd.N_far (p := ⟨gb390, 1, none⟩) (Kd.N_far (p := ⟨gb390, 0, none⟩) (Kd.N_mono HO_3.out (fun k_ hk => (⟨hk, hk.2⟩ : _ ∧ k_ ≠ gb390))) (fun _ hk => hk.2) (.string ((rd_T48 l0_1 x12_1).f0))) (fun _ hk => hk.2) (.slice A389_1 ((rd_T48 l0_1 x12_1).f1).length c389_1)) (fun _ hk => hk.2) (.int .i64 ((rd_T48 l0_1 x12_1).f2))) (fun _ hk => hk.2) (.int .i64 ((rd_T48 l0_1 x12_1).f3))) (fun _ hk => hk.2) (.int .i64 ((rd_T48 l0_1 x12_1).f4))) (fun _ hk => hk.2) (.string ((rd_T48 l0_1 x12_1).f5))) (fun _ hk => ⟨hk.1.1.1, ⟨(by simp [Value.ownBlock]), ⟨hk.1.1.2.1, ⟨hk.1.1.2.2, hk.1.2⟩⟩⟩⟩))⟩, ⟨kn⟩, ⟨by (with_reducible repeat (first | refine blk_drewN ?_ _ | refine blk_drew ?_ | refine blk_alloc ?_ _)); refine blk_far ?_ NB366_390.out _; (with_reducible repeat (first | refine blk_drewN ?_ _ | refine blk_drew ?_ | refine blk_alloc ?_ _)); refine blk_far ?_ NB366_390.out _; (with_reducible repeat (first | refine blk_drewN ?_ _ | refine blk_drew ?_ | refine blk_alloc ?_ _)); refine blk_far ?_ NB366_390.out _; (with_reducible repeat (first | refine blk_drewN ?_ _ | refine blk_drew ?_ | refine blk_alloc ?_ _)); refine blk_far ?_ NB366_390.out _; (with_reducible repeat (first | refine blk_drewN ?_ _ | refine blk_drew ?_ | refine blk_alloc ?_ _)); refine blk_far ?_ NB366_390.out _; (with_reducible repeat (first | refine blk_drewN ?_ _ | refine blk_drew ?_ | refine blk_alloc ?_ _)); refine blk_far ?_ NB366_390.out _; (with_reducible repeat (first | refine blk_drewN ?_ _ | refine blk_drew ?_ | refine blk_alloc ?_ _)); exact BK366.out⟩, ⟨by (with_reducible repeat (first | refine blk_drewN ?_ _ | refine blk_drew ?_ | refine blk_alloc ?_ _)); refine blk_far ?_ NB367_390.out _; (with_reducible repeat (first | refine blk_drewN ?_ _ | refine blk_drew ?_ | refine blk_alloc ?_ _)); refine blk_far ?_ NB367_390.out _; (with_reducible repeat (first | refine blk_drewN ?_ _ | refine blk_drew ?_ | refine blk_alloc ?_ _)); refine blk_far ?_ NB367_390.out _; (with_reducible repeat (first | refine blk_drewN ?_ _ | refine blk_drew ?_ | refine blk_alloc ?_ _)); refine blk_far ?_ NB367_390.out _; (with_reducible repeat (first | refine blk_drewN ?_ _ | refine blk_drew ?_ | refine blk_alloc ?_ _)); refine blk_far ?_ NB367_390.out _; (with_reducible repeat (first | refine blk_drewN ?_ _ | refine blk_drew ?_ | refine blk_alloc ?_ _)); refine blk_far ?_ NB367_390.out _; (with_reducible repeat (first | refine blk_drewN ?_ _ | refine blk_drew ?_ | refine blk_alloc ?_ _)); exact BK367.out⟩, ⟨by (with_reducible repeat (first | refine blk_drewN ?_ _ | refine blk_drew ?_ | refine blk_alloc ?_ _)); refine blk_put (cs := #[.string ((rd_T48 l0_1 x12_1).f0), .slice A389_1 ((rd_T48 l0_1 x12_1).f1).length c389_1, .int .i64 ((rd_T48 l0_1 x12_1).f2), .int .i64 ((rd_T48 l0_1 x12_1).f3), .int .i64 ((rd_T48 l0_1 x12_1).f4), .string (⟨#[]⟩ : ByteArray)]) ?_ 5 _ rfl; (with_reducible repeat (first | refine blk_drewN ?_ _ | refine blk_drew ?_ | refine blk_alloc ?_ _)); refine blk_put (cs := #[.string ((rd_T48 l0_1 x12_1).f0), .slice A389_1 ((rd_T48 l0_1 x12_1).f1).length c389_1, .int .i64 ((rd_T48 l0_1 x12_1).f2), .int .i64 ((rd_T48 l0_1 x12_1).f3), .int .i64 0, .string (⟨#[]⟩ : ByteArray)]) ?_ 4 _ rfl; (with_reducible repeat (first | refine blk_drewN ?_ _ | refine blk_drew ?_ | refine blk_alloc ?_ _)); refine blk_put (cs := #[.string ((rd_T48 l0_1 x12_1).f0), .slice A389_1 ((rd_T48 l0_1 x12_1).f1).length c389_1, .int .i64 ((rd_T48 l0_1 x12_1).f2), .int .i64 0, .int .i64 0, .string (⟨#[]⟩ : ByteArray)]) ?_ 3 _ rfl; (with_reducible repeat (first | refine blk_drewN ?_ _ | refine blk_drew ?_ | refine blk_alloc ?_ _)); refine blk_put (cs := #[.string ((rd_T48 l0_1 x12_1).f0), .slice A389_1 ((rd_T48 l0_1 x12_1).f1).length c389_1, .int .i64 0, .int .i64 0, .int .i64 0, .string (⟨#[]⟩ : ByteArray)]) ?_ 2 _ rfl; (with_reducible repeat (first | refine blk_drewN ?_ _ | refine blk_drew ?_ | refine blk_alloc ?_ _)); refine blk_put (cs := #[.string ((rd_T48 l0_1 x12_1).f0), .slice none 0 0, .int .i64 0, .int .i64 0, .int .i64 0, .string (⟨#[]⟩ : ByteArray)]) ?_ 1 _ rfl; (with_reducible repeat (first | refine blk_drewN ?_ _ | refine blk_drew ?_ | refine blk_alloc ?_ _)); refine blk_put (cs := #[.string (⟨#[]⟩ : ByteArray), .slice none 0 0, .int .i64 0, .int .i64 0, .int .i64 0, .string (⟨#[]⟩ : ByteArray)]) ?_ 0 _ rfl; (with_reducible repeat (first | refine blk_drewN ?_ _ | refine blk_drew ?_ | refine blk_alloc ?_ _)); exact BK390.out⟩, ⟨bb⟩⟩
      case round =>
       clear H'
       try clear c1
       try clear c2
       try clear p2
       try clear c3
       try clear p3
       try clear q3
       try clear hx3
       try clear c4
       try clear c6
       try clear c6b0
       try clear c7
       try clear c7b0
       try clear c8
       try clear c8b0
       try clear c10
       try clear c11
       try clear hcz12_0
       try clear hcz12_1
       try clear hcz12_2
       try clear hcz12_3
       try clear hcz12_4
       try clear hcz12_5
       try clear hcz5_0
       try clear hcz5_1
       try clear hfz12_0
       try clear hfz12_1
       try clear hfz12_2
       try clear hfz12_3
       try clear hfz12_4
       try clear hfz12_5
       try clear hfz5_0
       try clear hfz5_1
       try clear hx389_0
       try clear hx389_1
       try clear hx389_2
       try clear hx389_3
       try clear hx389_4
       try clear hx389_5
       try clear p2
       try clear p389
       try clear q389
       obtain ⟨x6_2, x19_2, rfl, HA, HK2, HO_3, HO_6, BK366, BK367, BK390, HB⟩ := hrel
       cases gk with
       | zero => exact absurd HA.out (by simp [graph_Value.l1])
       | succ k2 =>
        have H := HA.out
        clear HA
        simp only [graph_Value.l1] at H
        by_cases c13 : x19_2 < (((rd_T48 l0_1 x12_1).f1).length : Int)
        ·rw [if_pos c13] at H
         have c13b0 : decide (x19_2 < (((rd_T48 l0_1 x12_1).f1).length : Int)) = true := decide_eq_true c13
         clear c13
         by_cases c14 : 0 ≤ x19_2
         ·rw [if_pos c14] at H
          have c14b0 : decide (0 ≤ x19_2) = true := decide_eq_true c14
          clear c14
          by_cases c15 : x19_2 < (((rd_T48 l0_1 x12_1).f1).length : Int)
          ·rw [if_pos c15] at H
           have c15b0 : decide (x19_2 < (((rd_T48 l0_1 x12_1).f1).length : Int)) = true := decide_eq_true c15
           clear c15
           replace H := Option.bind_eq_some_iff.mp H
           obtain ⟨⟨t392, t393, t394, t395⟩, A160, H⟩ := H
           replace H : (if x6_2.length < 2513169434916 then (graph_Value.l1 k2 x3_1 (x6_2 ++ [(⟨t392, t393, t394, t395⟩ : S54)]) l0_1 (l0_1.length : Int) x12_1 ((rd_T48 l0_1 x12_1).f1) (((rd_T48 l0_1 x12_1).f1).length : Int) (wrap64 (x19_2 + 1)) a0_0 l0_1 ((rd_T48 l0_1 x12_1).f0) ((rd_T48 l0_1 x12_1).f1) ((rd_T48 l0_1 x12_1).f2) ((rd_T48 l0_1 x12_1).f3) ((rd_T48 l0_1 x12_1).f4) ((rd_T48 l0_1 x12_1).f5)) else (none)) = some (r1, r2, r3, r4) := H
           have A16 := Aside0.mk A160
           clear A160
           by_cases c17 : x6_2.length < 2513169434916
           ·rw [if_pos c17] at H
            have LMc17 := Aside0.mk c17
            clear c17
            obtain ⟨y398, hy398⟩ : ∃ y_ : List (S54), y_ = (x6_2 ++ [(⟨t392, t393, t394, t395⟩ : S54)]) := ⟨_, rfl⟩
            replace H : (graph_Value.l1 k2 x3_1 y398 l0_1 (l0_1.length : Int) x12_1 ((rd_T48 l0_1 x12_1).f1) (((rd_T48 l0_1 x12_1).f1).length : Int) (wrap64 (x19_2 + 1)) a0_0 l0_1 ((rd_T48 l0_1 x12_1).f0) ((rd_T48 l0_1 x12_1).f1) ((rd_T48 l0_1 x12_1).f2) ((rd_T48 l0_1 x12_1).f3) ((rd_T48 l0_1 x12_1).f4) ((rd_T48 l0_1 x12_1).f5)) = some (r1, r2, r3, r4) := by first | (rw [hy398]; with_reducible exact H) | (have H2_ := (Option.bind_some _ _).symm.trans H; rw [hy398]; with_reducible exact H2_) | (have H2_ := (Option.bind_some _ _).symm.trans H; with_reducible exact H2_) | with_reducible exact H | (rw [hy398]; exact H) | exact H
            have Ny398 := Aside0.mk hy398
            clear hy398
            have H' := Aside0.mk H
            clear H
            have p391 : 0 ≤ (x19_2 : Int) := of_decide_eq_true (by first | (with_reducible assumption) | assumption)
            have q391 : x19_2 < (((rd_T48 l0_1 x12_1).f1).length : Int) := of_decide_eq_true (by first | (with_reducible assumption) | assumption)
            obtain ⟨ad391, e391, hx391_0⟩ := Kd.at_string HR389_1.out x19_2 p391 q391
            cases e391
            replace hx391_0 := (HB.out.cell (World.block_lt_of_cell? w _ hx391_0)).trans hx391_0
            replace p391 := eq_true p391
            replace q391 := eq_true q391
            go_wp2_with (first | ((with_reducible refine gate_callee (f := 64) rfl ?_); refine goesL_ (some 25) rfl rfl Try.func64 (by kernel_rfl) rfl #[.string (rdOf ByteArray.empty ((rd_T48 l0_1 x12_1).f1) x19_2)] rfl ag ?_; (with_reducible refine (pack_Str.calls (rdOf ByteArray.empty ((rd_T48 l0_1 x12_1).f1) x19_2) t392 t393 t394 t395 _ A16.out).mono ?_); rintro e w18 ⟨v396, rfl, ho0, hb⟩; refine ⟨_, rfl, ?_⟩; have n0_ := Aside0.mk (Kd.N_elder' (kN HO_3.out) (by first | exact Kd.N_base ho0 | exact Kd.N_base (Kd.R_N ho0)) hb); have n1_ := Aside0.mk (Kd.N_elder' (kN HO_6.out) (by first | exact Kd.N_base ho0 | exact Kd.N_base (Kd.R_N ho0)) hb); have n2_ := Aside0.mk (Kd.N_lower (Kd.N_mono (ok' := fun k_ => (w.heap.size ≤ k_) ∧ some k_ ≠ (u3 : Value).ownBlock ∧ some k_ ≠ (u6 : Value).ownBlock ∧ k_ ≠ gb366 ∧ k_ ≠ gb367 ∧ k_ ≠ gb390) (Kd.R_N (Kd.R_bound ho0)) (fun k_ hk_ => ⟨(Nat.le_trans (below_size bb) hk_.2.1), (Kd.fresh' (Kd.N_lt (kN HO_3.out)) k_ hk_.2.1), (Kd.fresh' (Kd.N_lt (kN HO_6.out)) k_ hk_.2.1), (Kd.freshB (rb BK366.out) k_ hk_.2.1), (Kd.freshB (g := gb367) (o := .cells #[.int .i64 0, .int .i64 0, .string (⟨#[]⟩ : ByteArray), .slice none 0 0] 54 (0, 0)) (rb BK367.out) k_ hk_.2.1), (Kd.freshB (rb BK390.out) k_ hk_.2.1)⟩)) (below_size bb)); have n3_ := Aside0.mk (blk_below (rb BK366.out) hb); have n4_ := Aside0.mk (blk_below (g := gb367) (o := .cells #[.int .i64 0, .int .i64 0, .string (⟨#[]⟩ : ByteArray), .slice none 0 0] 54 (0, 0)) (rb BK367.out) hb); have n5_ := Aside0.mk (blk_below (rb BK390.out) hb); have n6_ := Aside0.mk (below_step bb hb); clear HO_3; clear HO_6; clear BK366; clear BK367; clear BK390; clear HB; have HO_3 := n0_; have HO_6 := n1_; have HO397 := n2_; have BK366 := n3_; have BK367 := n4_; have BK390 := n5_; have HB := n6_; clear n0_ n1_ n2_ n3_ n4_ n5_ n6_; (try clear hb); (try clear hb2); (try clear hk); (try clear hi); (try clear ho0); obtain ⟨Ao20, co20, eo20⟩ := Kd.N_slice HO397.out; subst eo20) | ((with_reducible refine gate_builtin (b := .append) (xs := #[.tmp 23, .tmp 26]) rfl ?_); at_builtin; refine Kd.N_append k54 (w0 := w) w.heap.size rfl (.tmp 23) (.tmp 26) 52 54 (.agg #[(.int .i64 0), (.int .i64 0), (.string ⟨#[]⟩), (.slice none 0 0)]) 56 rfl Try.underlying52 info54 rfl (by decide) (by omega) u6 x6_2 (⟨t392, t393, t394, t395⟩ : S54) [.int .i64 t392, .int .i64 t393, .string t394, .slice Ao20 t395.length co20] (fun k_ => (w.heap.size ≤ k_) ∧ some k_ ≠ (u3 : Value).ownBlock ∧ k_ ≠ gb366 ∧ k_ ≠ gb367 ∧ k_ ≠ gb390) (fun k_ => ((fun k_ => (w.heap.size ≤ k_) ∧ some k_ ≠ (u3 : Value).ownBlock ∧ k_ ≠ gb366 ∧ k_ ≠ gb367 ∧ k_ ≠ gb390)) k_ ∧ some k_ ≠ (u6 : Value).ownBlock) rfl rfl ?aP (fun _ hk => hk) ?aF ?aO ?aB ?aS ?aL ?_; (case aP => exact (k54_mkF _ _ (⟨t392, t393, t394, t395⟩ : S54) (Kd.N_reads' (Kd.N_mono (ok' := (fun k_ => ((fun k_ => (w.heap.size ≤ k_) ∧ some k_ ≠ (u3 : Value).ownBlock ∧ k_ ≠ gb366 ∧ k_ ≠ gb367 ∧ k_ ≠ gb390)) k_ ∧ some k_ ≠ (u6 : Value).ownBlock)) (HO397.out) (fun k_ hk => ⟨⟨hk.1, ⟨hk.2.1, ⟨hk.2.2.2.1, ⟨hk.2.2.2.2.1, hk.2.2.2.2.2⟩⟩⟩⟩, hk.2.2.1⟩))).2.1 (Kd.N_F (Kd.N_mono (ok' := (fun k_ => ((fun k_ => (w.heap.size ≤ k_) ∧ some k_ ≠ (u3 : Value).ownBlock ∧ k_ ≠ gb366 ∧ k_ ≠ gb367 ∧ k_ ≠ gb390)) k_ ∧ some k_ ≠ (u6 : Value).ownBlock)) (HO397.out) (fun k_ hk => ⟨⟨hk.1, ⟨hk.2.1, ⟨hk.2.2.2.1, ⟨hk.2.2.2.2.1, hk.2.2.2.2.2⟩⟩⟩⟩, hk.2.2.1⟩))))); (case aB => exact bb); (case aF => exact (fun k_ hk => ⟨(Nat.le_trans (below_size bb) hk), Kd.fresh' (Kd.N_lt (kN HO_3.out)) k_ hk, Kd.freshB (rb BK366.out) k_ hk, Kd.freshB (g := gb367) (o := .cells #[.int .i64 0, .int .i64 0, .string (⟨#[]⟩ : ByteArray), .slice none 0 0] 54 (0, 0)) (rb BK367.out) k_ hk, Kd.freshB (rb BK390.out) k_ hk⟩)); (case aO => exact (kN (Kd.N_mono HO_6.out (fun _ hk => ⟨hk.1.1, ⟨hk.1.2.1, ⟨hk.1.2.2.1, ⟨hk.1.2.2.2.1, hk.1.2.2.2.2⟩⟩⟩⟩)))); (case aS => exact (below_size bb)); (case aL => have := LMc17.out; omega); intro v399 w19 ho hb hg hat; rw [← Ny398.out] at ho; have n0_ := Aside0.mk (Kd.N_afterv (ok := (fun k_ => (w.heap.size ≤ k_) ∧ some k_ ≠ (.slice Ao20 t395.length co20 : Value).ownBlock ∧ k_ ≠ gb366 ∧ k_ ≠ gb367 ∧ k_ ≠ gb390)) (kN (Kd.N_mono HO_3.out (fun _ hk => ⟨⟨hk.1.1, ⟨hk.2, ⟨hk.1.2.2.1, ⟨hk.1.2.2.2.1, hk.1.2.2.2.2⟩⟩⟩⟩, hk.1.2.1⟩))) hg hat); have n1_ := Aside0.mk (blk_grown (rb BK366.out) hg (Kd.N_ne HO_6.out BK366.out (by decide))); have n2_ := Aside0.mk (blk_grown (g := gb367) (o := .cells #[.int .i64 0, .int .i64 0, .string (⟨#[]⟩ : ByteArray), .slice none 0 0] 54 (0, 0)) (rb BK367.out) hg (Kd.N_away HO_6.out (fun _ hk => hk.1.2.2.2.1))); have n3_ := Aside0.mk (blk_grown (rb BK390.out) hg (Kd.N_ne HO_6.out BK390.out (by decide))); have n4_ := Aside0.mk (hb); have n5_ := Aside0.mk (ho); clear HO_3; clear BK366; clear BK367; clear BK390; clear HB; clear HO_6; clear HO397; have HO_3 := n0_; have BK366 := n1_; have BK367 := n2_; have BK390 := n3_; have HB := n4_; have HO400 := n5_; clear n0_ n1_ n2_ n3_ n4_ n5_; clear ho hb hg hat))
            go_roundg k2
            case measure => have := HK1.out; have := HK2.out; omega
            case rel => exact ⟨(y398), (wrap64 (x19_2 + 1)), (by first | rfl | (simp; done) | (simp [*]; done)), H', ⟨by have := HK1.out; have := HK2.out; omega⟩, ⟨kN (Kd.N_mono HO_3.out (fun _ hk => ⟨hk.1.1, ⟨hk.2, ⟨hk.1.2.2.1, ⟨hk.1.2.2.2.1, hk.1.2.2.2.2⟩⟩⟩⟩))⟩, ⟨kN HO400.out⟩, ⟨by (with_reducible repeat (first | refine blk_drewN ?_ _ | refine blk_drew ?_ | refine blk_alloc ?_ _)); exact BK366.out⟩, ⟨by (with_reducible repeat (first | refine blk_drewN ?_ _ | refine blk_drew ?_ | refine blk_alloc ?_ _)); exact BK367.out⟩, ⟨by (with_reducible repeat (first | refine blk_drewN ?_ _ | refine blk_drew ?_ | refine blk_alloc ?_ _)); exact BK390.out⟩, ⟨bb⟩⟩
           ·rw [if_neg c17] at H
            exact absurd H (by simp)
          ·rw [if_neg c15] at H
           exact absurd H (by simp)
         ·rw [if_neg c14] at H
          exact absurd H (by simp)
        ·rw [if_neg c13] at H
         have c13b0 : decide (x19_2 < (((rd_T48 l0_1 x12_1).f1).length : Int)) = false := decide_eq_false c13
         clear c13
         replace H := Option.bind_eq_some_iff.mp H
         obtain ⟨⟨t401, t402, t403, t404⟩, A210, H⟩ := H
         replace H : ((pack_All.f x6_2).bind fun bt407 => ((pack_Num.f ((rd_T48 l0_1 x12_1).f2)).bind fun bt413 => ((pack_Num.f ((rd_T48 l0_1 x12_1).f3)).bind fun bt419 => ((pack_Num.f ((rd_T48 l0_1 x12_1).f4)).bind fun bt425 => ((pack_Str.f ((rd_T48 l0_1 x12_1).f5)).bind fun bt431 => ((pack_All.f (([(⟨t401, t402, t403, t404⟩ : S54), (⟨bt407.1, bt407.2.1, bt407.2.2.1, bt407.2.2.2⟩ : S54), (⟨bt413.1, bt413.2.1, bt413.2.2.1, bt413.2.2.2⟩ : S54), (⟨bt419.1, bt419.2.1, bt419.2.2.1, bt419.2.2.2⟩ : S54), (⟨bt425.1, bt425.2.1, bt425.2.2.1, bt425.2.2.2⟩ : S54), (⟨bt431.1, bt431.2.1, bt431.2.2.1, bt431.2.2.2⟩ : S54)] : List (S54)))).bind fun bt440 => (if x3_1.length < 2513169434916 then (graph_Value.l0 k2 (x3_1 ++ [(⟨bt440.1, bt440.2.1, bt440.2.2.1, bt440.2.2.2⟩ : S54)]) l0_1 (l0_1.length : Int) (wrap64 (x12_1 + 1)) a0_0 l0_1) else (none)))))))) = some (r1, r2, r3, r4) := H
         have A21 := Aside0.mk A210
         clear A210
         replace H := Option.bind_eq_some_iff.mp H
         obtain ⟨⟨t407, t408, t409, t410⟩, A220, H⟩ := H
         replace H : ((pack_Num.f ((rd_T48 l0_1 x12_1).f2)).bind fun bt413 => ((pack_Num.f ((rd_T48 l0_1 x12_1).f3)).bind fun bt419 => ((pack_Num.f ((rd_T48 l0_1 x12_1).f4)).bind fun bt425 => ((pack_Str.f ((rd_T48 l0_1 x12_1).f5)).bind fun bt431 => ((pack_All.f (([(⟨t401, t402, t403, t404⟩ : S54), (⟨t407, t408, t409, t410⟩ : S54), (⟨bt413.1, bt413.2.1, bt413.2.2.1, bt413.2.2.2⟩ : S54), (⟨bt419.1, bt419.2.1, bt419.2.2.1, bt419.2.2.2⟩ : S54), (⟨bt425.1, bt425.2.1, bt425.2.2.1, bt425.2.2.2⟩ : S54), (⟨bt431.1, bt431.2.1, bt431.2.2.1, bt431.2.2.2⟩ : S54)] : List (S54)))).bind fun bt440 => (if x3_1.length < 2513169434916 then (graph_Value.l0 k2 (x3_1 ++ [(⟨bt440.1, bt440.2.1, bt440.2.2.1, bt440.2.2.2⟩ : S54)]) l0_1 (l0_1.length : Int) (wrap64 (x12_1 + 1)) a0_0 l0_1) else (none))))))) = some (r1, r2, r3, r4) := H
         have A22 := Aside0.mk A220
         clear A220
         replace H := Option.bind_eq_some_iff.mp H
         obtain ⟨⟨t413, t414, t415, t416⟩, A230, H⟩ := H
         replace H : ((pack_Num.f ((rd_T48 l0_1 x12_1).f3)).bind fun bt419 => ((pack_Num.f ((rd_T48 l0_1 x12_1).f4)).bind fun bt425 => ((pack_Str.f ((rd_T48 l0_1 x12_1).f5)).bind fun bt431 => ((pack_All.f (([(⟨t401, t402, t403, t404⟩ : S54), (⟨t407, t408, t409, t410⟩ : S54), (⟨t413, t414, t415, t416⟩ : S54), (⟨bt419.1, bt419.2.1, bt419.2.2.1, bt419.2.2.2⟩ : S54), (⟨bt425.1, bt425.2.1, bt425.2.2.1, bt425.2.2.2⟩ : S54), (⟨bt431.1, bt431.2.1, bt431.2.2.1, bt431.2.2.2⟩ : S54)] : List (S54)))).bind fun bt440 => (if x3_1.length < 2513169434916 then (graph_Value.l0 k2 (x3_1 ++ [(⟨bt440.1, bt440.2.1, bt440.2.2.1, bt440.2.2.2⟩ : S54)]) l0_1 (l0_1.length : Int) (wrap64 (x12_1 + 1)) a0_0 l0_1) else (none)))))) = some (r1, r2, r3, r4) := H
         have A23 := Aside0.mk A230
         clear A230
         replace H := Option.bind_eq_some_iff.mp H
         obtain ⟨⟨t419, t420, t421, t422⟩, A240, H⟩ := H
         replace H : ((pack_Num.f ((rd_T48 l0_1 x12_1).f4)).bind fun bt425 => ((pack_Str.f ((rd_T48 l0_1 x12_1).f5)).bind fun bt431 => ((pack_All.f (([(⟨t401, t402, t403, t404⟩ : S54), (⟨t407, t408, t409, t410⟩ : S54), (⟨t413, t414, t415, t416⟩ : S54), (⟨t419, t420, t421, t422⟩ : S54), (⟨bt425.1, bt425.2.1, bt425.2.2.1, bt425.2.2.2⟩ : S54), (⟨bt431.1, bt431.2.1, bt431.2.2.1, bt431.2.2.2⟩ : S54)] : List (S54)))).bind fun bt440 => (if x3_1.length < 2513169434916 then (graph_Value.l0 k2 (x3_1 ++ [(⟨bt440.1, bt440.2.1, bt440.2.2.1, bt440.2.2.2⟩ : S54)]) l0_1 (l0_1.length : Int) (wrap64 (x12_1 + 1)) a0_0 l0_1) else (none))))) = some (r1, r2, r3, r4) := H
         have A24 := Aside0.mk A240
         clear A240
         replace H := Option.bind_eq_some_iff.mp H
         obtain ⟨⟨t425, t426, t427, t428⟩, A250, H⟩ := H
         replace H : ((pack_Str.f ((rd_T48 l0_1 x12_1).f5)).bind fun bt431 => ((pack_All.f (([(⟨t401, t402, t403, t404⟩ : S54), (⟨t407, t408, t409, t410⟩ : S54), (⟨t413, t414, t415, t416⟩ : S54), (⟨t419, t420, t421, t422⟩ : S54), (⟨t425, t426, t427, t428⟩ : S54), (⟨bt431.1, bt431.2.1, bt431.2.2.1, bt431.2.2.2⟩ : S54)] : List (S54)))).bind fun bt440 => (if x3_1.length < 2513169434916 then (graph_Value.l0 k2 (x3_1 ++ [(⟨bt440.1, bt440.2.1, bt440.2.2.1, bt440.2.2.2⟩ : S54)]) l0_1 (l0_1.length : Int) (wrap64 (x12_1 + 1)) a0_0 l0_1) else (none)))) = some (r1, r2, r3, r4) := H
         have A25 := Aside0.mk A250
         clear A250
         replace H := Option.bind_eq_some_iff.mp H
         obtain ⟨⟨t431, t432, t433, t434⟩, A260, H⟩ := H
         replace H : ((pack_All.f (([(⟨t401, t402, t403, t404⟩ : S54), (⟨t407, t408, t409, t410⟩ : S54), (⟨t413, t414, t415, t416⟩ : S54), (⟨t419, t420, t421, t422⟩ : S54), (⟨t425, t426, t427, t428⟩ : S54), (⟨t431, t432, t433, t434⟩ : S54)] : List (S54)))).bind fun bt440 => (if x3_1.length < 2513169434916 then (graph_Value.l0 k2 (x3_1 ++ [(⟨bt440.1, bt440.2.1, bt440.2.2.1, bt440.2.2.2⟩ : S54)]) l0_1 (l0_1.length : Int) (wrap64 (x12_1 + 1)) a0_0 l0_1) else (none))) = some (r1, r2, r3, r4) := H
         have A26 := Aside0.mk A260
         clear A260
         obtain ⟨y437, hy437⟩ : ∃ y_ : List (S54), y_ = (([(⟨t401, t402, t403, t404⟩ : S54), (⟨t407, t408, t409, t410⟩ : S54), (⟨t413, t414, t415, t416⟩ : S54), (⟨t419, t420, t421, t422⟩ : S54), (⟨t425, t426, t427, t428⟩ : S54), (⟨t431, t432, t433, t434⟩ : S54)] : List (S54))) := ⟨_, rfl⟩
         replace H : ((pack_All.f y437).bind fun bt440 => (if x3_1.length < 2513169434916 then (graph_Value.l0 k2 (x3_1 ++ [(⟨bt440.1, bt440.2.1, bt440.2.2.1, bt440.2.2.2⟩ : S54)]) l0_1 (l0_1.length : Int) (wrap64 (x12_1 + 1)) a0_0 l0_1) else (none))) = some (r1, r2, r3, r4) := by first | (rw [hy437]; with_reducible exact H) | (have H2_ := (Option.bind_some _ _).symm.trans H; rw [hy437]; with_reducible exact H2_) | (have H2_ := (Option.bind_some _ _).symm.trans H; with_reducible exact H2_) | with_reducible exact H | (rw [hy437]; exact H) | exact H
         have Ny437 := Aside0.mk hy437
         clear hy437
         replace H := Option.bind_eq_some_iff.mp H
         obtain ⟨⟨t440, t441, t442, t443⟩, A270, H⟩ := H
         replace H : (if x3_1.length < 2513169434916 then (graph_Value.l0 k2 (x3_1 ++ [(⟨t440, t441, t442, t443⟩ : S54)]) l0_1 (l0_1.length : Int) (wrap64 (x12_1 + 1)) a0_0 l0_1) else (none)) = some (r1, r2, r3, r4) := H
         have A27 := Aside0.mk A270
         clear A270
         by_cases c28 : x3_1.length < 2513169434916
         ·rw [if_pos c28] at H
          have LMc28 := Aside0.mk c28
          clear c28
          obtain ⟨y446, hy446⟩ : ∃ y_ : List (S54), y_ = (x3_1 ++ [(⟨t440, t441, t442, t443⟩ : S54)]) := ⟨_, rfl⟩
          replace H : (graph_Value.l0 k2 y446 l0_1 (l0_1.length : Int) (wrap64 (x12_1 + 1)) a0_0 l0_1) = some (r1, r2, r3, r4) := by first | (rw [hy446]; with_reducible exact H) | (have H2_ := (Option.bind_some _ _).symm.trans H; rw [hy446]; with_reducible exact H2_) | (have H2_ := (Option.bind_some _ _).symm.trans H; with_reducible exact H2_) | with_reducible exact H | (rw [hy446]; exact H) | exact H
          have Ny446 := Aside0.mk hy446
          clear hy446
          have H' := Aside0.mk H
          clear H
          try go_wp2
          have n0_ := Aside0.mk (Kd.N_drew HO_3.out)
          have n1_ := Aside0.mk (Kd.N_drew HO_6.out)
          have n2_ := Aside0.mk (blk_drew BK366.out)
          have n3_ := Aside0.mk (blk_drew BK367.out)
          have n4_ := Aside0.mk (blk_drew BK390.out)
          have n5_ := Aside0.mk (below_drew1 HB.out)
          clear HO_3
          clear HO_6
          clear BK366
          clear BK367
          clear BK390
          clear HB
          have HO_3 := n0_
          have HO_6 := n1_
          have BK366 := n2_
          have BK367 := n3_
          have BK390 := n4_
          have HB := n5_
          clear n0_ n1_ n2_ n3_ n4_ n5_
          refine start_ (n := 23) (S := fun w' => w'.cell? ⟨gb390, 0, none⟩ = some (.string ((rd_T48 l0_1 x12_1).f0)) ∧ w'.cell? ⟨gb390, 1, none⟩ = some (.slice A389_1 ((rd_T48 l0_1 x12_1).f1).length c389_1) ∧ w'.cell? ⟨gb390, 2, none⟩ = some (.int .i64 ((rd_T48 l0_1 x12_1).f2)) ∧ w'.cell? ⟨gb390, 3, none⟩ = some (.int .i64 ((rd_T48 l0_1 x12_1).f3)) ∧ w'.cell? ⟨gb390, 4, none⟩ = some (.int .i64 ((rd_T48 l0_1 x12_1).f4)) ∧ w'.cell? ⟨gb390, 5, none⟩ = some (.string ((rd_T48 l0_1 x12_1).f5))) (ds := []) #[false, false, false, false, false, false, false, false, false, false, false, false, false, false, false, false, false, false, false, false, false, false, false] (by kernel_rfl) rfl rfl ⟨(blk_cell BK390.out 0).trans rfl, (blk_cell BK390.out 1).trans rfl, (blk_cell BK390.out 2).trans rfl, (blk_cell BK390.out 3).trans rfl, (blk_cell BK390.out 4).trans rfl, (blk_cell BK390.out 5).trans rfl⟩ (fun hHeld => ?_); refine with_tabW graph_Value.tab11 graph_Value.bits11 (fun HT_ HW_ => ?_)
          generalize wr.drew = w29 at HO_3 HO_6 BK366 BK367 BK390 HB hHeld ⊢
          refine pure_ (i := 0) (N := some 29) (v := ?_) (a' := ?_) #[true, false, false, false, false, false, false, false, false, false, false, false, false, false, false, false, false, false, false, false, false, false, false] rfl rfl (any_of HT_.out (by kernel_rfl)) (fun _ _ _ h => h) (Or.inl ⟨by rfl, ?_⟩) ?_ ?_
          rotate_left
          ·intro w'
           go_simp
           with_reducible rfl
          rotate_left
          ·simp only [Act.put, List.setIfInBounds_toArray, List.set_cons_zero, List.set_cons_succ, i64_w, i32_w]
           rfl
          refine pure_ (i := 1) (N := some 30) (v := ?_) (a' := ?_) #[true, true, false, false, false, false, false, false, false, false, false, false, false, false, false, false, false, false, false, false, false, false, false] rfl rfl (any_of HT_.out (by kernel_rfl)) (fun _ _ _ h => h) (Or.inl ⟨by rfl, ?_⟩) ?_ ?_
          rotate_left
          ·intro w'
           go_simp
           with_reducible rfl
          rotate_left
          ·simp only [Act.put, List.setIfInBounds_toArray, List.set_cons_zero, List.set_cons_succ, i64_w, i32_w]
           rfl
          refine pure_ (i := 4) (N := some 33) (v := ?_) (a' := ?_) #[true, true, false, false, true, false, false, false, false, false, false, false, false, false, false, false, false, false, false, false, false, false, false] rfl rfl (any_of HT_.out (by kernel_rfl)) (fun _ _ _ h => h) (Or.inl ⟨by rfl, ?_⟩) ?_ ?_
          rotate_left
          ·intro w'
           go_simp
           with_reducible rfl
          rotate_left
          ·simp only [Act.put, List.setIfInBounds_toArray, List.set_cons_zero, List.set_cons_succ, i64_w, i32_w]
           rfl
          refine pure_ (i := 6) (N := some 35) (v := ?_) (a' := ?_) #[true, true, false, false, true, false, true, false, false, false, false, false, false, false, false, false, false, false, false, false, false, false, false] rfl rfl (any_of HT_.out (by kernel_rfl)) (fun _ _ _ h => h) (Or.inl ⟨by rfl, ?_⟩) ?_ ?_
          rotate_left
          ·intro w'
           go_simp
           with_reducible rfl
          rotate_left
          ·simp only [Act.put, List.setIfInBounds_toArray, List.set_cons_zero, List.set_cons_succ, i64_w, i32_w]
           rfl
          refine pure_ (i := 9) (N := some 38) (v := ?_) (a' := ?_) #[true, true, false, false, true, false, true, false, false, true, false, false, false, false, false, false, false, false, false, false, false, false, false] rfl rfl (any_of HT_.out (by kernel_rfl)) (fun _ _ _ h => h) (Or.inl ⟨by rfl, ?_⟩) ?_ ?_
          rotate_left
          ·intro w'
           go_simp
           with_reducible rfl
          rotate_left
          ·simp only [Act.put, List.setIfInBounds_toArray, List.set_cons_zero, List.set_cons_succ, i64_w, i32_w]
           rfl
          refine pure_ (i := 12) (N := some 41) (v := ?_) (a' := ?_) #[true, true, false, false, true, false, true, false, false, true, false, false, true, false, false, false, false, false, false, false, false, false, false] rfl rfl (any_of HT_.out (by kernel_rfl)) (fun _ _ _ h => h) (Or.inl ⟨by rfl, ?_⟩) ?_ ?_
          rotate_left
          ·intro w'
           go_simp
           with_reducible rfl
          rotate_left
          ·simp only [Act.put, List.setIfInBounds_toArray, List.set_cons_zero, List.set_cons_succ, i64_w, i32_w]
           rfl
          refine pure_ (i := 15) (N := some 44) (v := ?_) (a' := ?_) #[true, true, false, false, true, false, true, false, false, true, false, false, true, false, false, true, false, false, false, false, false, false, false] rfl rfl (any_of HT_.out (by kernel_rfl)) (fun _ _ _ h => h) (Or.inl ⟨by rfl, ?_⟩) ?_ ?_
          rotate_left
          ·intro w'
           go_simp
           with_reducible rfl
          rotate_left
          ·simp only [Act.put, List.setIfInBounds_toArray, List.set_cons_zero, List.set_cons_succ, i64_w, i32_w]
           rfl
          refine take_ (i := 2) (N := some 31) (v := ?_) (a' := ?_) #[true, true, true, false, true, false, true, false, false, true, false, false, true, false, false, true, false, false, false, false, false, false, false] rfl rfl (take_ofW HT_.out HW_.out (by kernel_rfl)) (fun _ _ _ h => h) (Or.inl ⟨by rfl, ?_⟩) hHeld ?_ ?_
          rotate_left
          ·rintro w' ⟨s0, s1, s2, s3, s4, s5⟩
           go_simp
           with_reducible rfl
          rotate_left
          ·simp only [Act.put, List.setIfInBounds_toArray, List.set_cons_zero, List.set_cons_succ, i64_w, i32_w]
           rfl
          refine take_ (i := 7) (N := some 36) (v := ?_) (a' := ?_) #[true, true, true, false, true, false, true, true, false, true, false, false, true, false, false, true, false, false, false, false, false, false, false] rfl rfl (take_ofW HT_.out HW_.out (by kernel_rfl)) (fun _ _ _ h => h) (Or.inl ⟨by rfl, ?_⟩) hHeld ?_ ?_
          rotate_left
          ·rintro w' ⟨s0, s1, s2, s3, s4, s5⟩
           go_simp
           with_reducible rfl
          rotate_left
          ·simp only [Act.put, List.setIfInBounds_toArray, List.set_cons_zero, List.set_cons_succ, i64_w, i32_w]
           rfl
          refine take_ (i := 10) (N := some 39) (v := ?_) (a' := ?_) #[true, true, true, false, true, false, true, true, false, true, true, false, true, false, false, true, false, false, false, false, false, false, false] rfl rfl (take_ofW HT_.out HW_.out (by kernel_rfl)) (fun _ _ _ h => h) (Or.inl ⟨by rfl, ?_⟩) hHeld ?_ ?_
          rotate_left
          ·rintro w' ⟨s0, s1, s2, s3, s4, s5⟩
           go_simp
           with_reducible rfl
          rotate_left
          ·simp only [Act.put, List.setIfInBounds_toArray, List.set_cons_zero, List.set_cons_succ, i64_w, i32_w]
           rfl
          refine take_ (i := 13) (N := some 42) (v := ?_) (a' := ?_) #[true, true, true, false, true, false, true, true, false, true, true, false, true, true, false, true, false, false, false, false, false, false, false] rfl rfl (take_ofW HT_.out HW_.out (by kernel_rfl)) (fun _ _ _ h => h) (Or.inl ⟨by rfl, ?_⟩) hHeld ?_ ?_
          rotate_left
          ·rintro w' ⟨s0, s1, s2, s3, s4, s5⟩
           go_simp
           with_reducible rfl
          rotate_left
          ·simp only [Act.put, List.setIfInBounds_toArray, List.set_cons_zero, List.set_cons_succ, i64_w, i32_w]
           rfl
          refine take_ (i := 16) (N := some 45) (v := ?_) (a' := ?_) #[true, true, true, false, true, false, true, true, false, true, true, false, true, true, false, true, true, false, false, false, false, false, false] rfl rfl (take_ofW HT_.out HW_.out (by kernel_rfl)) (fun _ _ _ h => h) (Or.inl ⟨by rfl, ?_⟩) hHeld ?_ ?_
          rotate_left
          ·rintro w' ⟨s0, s1, s2, s3, s4, s5⟩
           go_simp
           with_reducible rfl
          rotate_left
          ·simp only [Act.put, List.setIfInBounds_toArray, List.set_cons_zero, List.set_cons_succ, i64_w, i32_w]
           rfl
          refine one_ (i := 3) (N := some 32) #[true, true, true, true, true, false, true, true, false, true, true, false, true, true, false, true, true, false, false, false, false, false, false] rfl rfl (one_of HT_.out (by kernel_rfl)) (by decide) (fun K hK => ?_)
          refine goes_ Try.func64 (by kernel_rfl) rfl #[.string ((rd_T48 l0_1 x12_1).f0)] (by rfl) rfl rfl ag ?_
          with_reducible refine (pack_Str.calls ((rd_T48 l0_1 x12_1).f0) t401 t402 t403 t404 _ A21.out).mono ?_
          rintro e w30 ⟨v405, rfl, ho0, hb⟩
          refine ⟨_, rfl, ?_⟩
          have n0_ := Aside0.mk (Kd.N_elder' (kN HO_3.out) (by first | exact Kd.N_base ho0 | exact Kd.N_base (Kd.R_N ho0)) hb)
          have n1_ := Aside0.mk (Kd.N_elder' (kN HO_6.out) (by first | exact Kd.N_base ho0 | exact Kd.N_base (Kd.R_N ho0)) hb)
          have n2_ := Aside0.mk (Kd.N_lower (Kd.N_mono (ok' := fun k_ => (w.heap.size ≤ k_) ∧ some k_ ≠ (u3 : Value).ownBlock ∧ some k_ ≠ (u6 : Value).ownBlock ∧ k_ ≠ gb366 ∧ k_ ≠ gb367 ∧ k_ ≠ gb390) (Kd.R_N (Kd.R_bound ho0)) (fun k_ hk_ => ⟨(Nat.le_trans (below_size bb) hk_.2.1), (Kd.fresh' (Kd.N_lt (kN HO_3.out)) k_ hk_.2.1), (Kd.fresh' (Kd.N_lt (kN HO_6.out)) k_ hk_.2.1), (Kd.freshB (rb BK366.out) k_ hk_.2.1), (Kd.freshB (g := gb367) (o := .cells #[.int .i64 0, .int .i64 0, .string (⟨#[]⟩ : ByteArray), .slice none 0 0] 54 (0, 0)) (rb BK367.out) k_ hk_.2.1), (Kd.freshB (rb BK390.out) k_ hk_.2.1)⟩)) (below_size bb))
          have n3_ := Aside0.mk (blk_below (rb BK366.out) hb)
          have n4_ := Aside0.mk (blk_below (g := gb367) (o := .cells #[.int .i64 0, .int .i64 0, .string (⟨#[]⟩ : ByteArray), .slice none 0 0] 54 (0, 0)) (rb BK367.out) hb)
          have n5_ := Aside0.mk (blk_below (rb BK390.out) hb)
          have n6_ := Aside0.mk (below_step bb hb)
          clear HO_3
          clear HO_6
          clear BK366
          clear BK367
          clear BK390
          clear HB
          have HO_3 := n0_
          have HO_6 := n1_
          have HO406 := n2_
          have BK366 := n3_
          have BK367 := n4_
          have BK390 := n5_
          have HB := n6_
          clear n0_ n1_ n2_ n3_ n4_ n5_ n6_
          (try clear hb)
          (try clear hb2)
          (try clear hk)
          (try clear hi)
          (try clear ho0)
          obtain ⟨Ao31, co31, eo31⟩ := Kd.N_slice HO_6.out
          (first | subst eo31 | (injection eo31 with f1_ f2_ f3_; have f4_ := f1_.symm; have f5_ := f3_.symm; clear f1_ f2_ f3_; subst f4_; subst f5_))
          refine hK.out _ _ ⟨(blk_cell BK390.out 0).trans rfl, (blk_cell BK390.out 1).trans rfl, (blk_cell BK390.out 2).trans rfl, (blk_cell BK390.out 3).trans rfl, (blk_cell BK390.out 4).trans rfl, (blk_cell BK390.out 5).trans rfl⟩ (fun hHeld => ?_)
          clear hK K
          refine norm_ (a' := ?_) ?_ ?_
          rotate_left
          ·show Act.put _ (some 32) _ = _
           simp only [Act.put, List.setIfInBounds_toArray, List.set_cons_zero, List.set_cons_succ, i64_w, i32_w]
           rfl
          refine one_ (i := 5) (N := some 34) #[true, true, true, true, true, true, true, true, false, true, true, false, true, true, false, true, true, false, false, false, false, false, false] rfl rfl (one_of HT_.out (by kernel_rfl)) (by decide) (fun K hK => ?_)
          refine goes_ Try.func40 (by kernel_rfl) rfl #[.slice Ao31 x6_2.length co31] (by rfl) rfl rfl ag ?_
          with_reducible refine (pack_All.calls (fun k_ => (((w.heap.size ≤ k_) ∧ (some k_ ≠ (u3 : Value).ownBlock ∧ (k_ ≠ gb366 ∧ (k_ ≠ gb367 ∧ k_ ≠ gb390)))) ∧ some k_ ≠ (v405 : Value).ownBlock)) _ _ x6_2 t407 t408 t409 t410 _ ?side1 A22.out).mono ?_
          (case side1 => exact Kd.N_V (HO_6.out))
          rintro e w32 ⟨v411, rfl, ho0, hb⟩
          refine ⟨_, rfl, ?_⟩
          have n0_ := Aside0.mk (Kd.N_elder' (kN HO_3.out) (by first | exact Kd.N_base ho0 | exact Kd.N_base (Kd.R_N ho0)) hb)
          have n1_ := Aside0.mk (Kd.N_elder' (kN HO_6.out) (by first | exact Kd.N_base ho0 | exact Kd.N_base (Kd.R_N ho0)) hb)
          have n2_ := Aside0.mk (Kd.N_elder' (kN HO406.out) (by first | exact Kd.N_base ho0 | exact Kd.N_base (Kd.R_N ho0)) hb)
          have n3_ := Aside0.mk (Kd.N_lower (Kd.N_mono (ok' := fun k_ => (w.heap.size ≤ k_) ∧ some k_ ≠ (u3 : Value).ownBlock ∧ some k_ ≠ (v405 : Value).ownBlock ∧ k_ ≠ gb366 ∧ k_ ≠ gb367 ∧ k_ ≠ gb390) ho0 (fun k_ hk_ => ⟨Or.elim hk_ (fun hs_ => hs_.1.1) (fun hn_ => (Nat.le_trans (below_size bb) hn_)), Or.elim hk_ (fun hs_ => hs_.1.2.1) (fun hn_ => (Kd.fresh' (Kd.N_lt (kN HO_3.out)) k_ hn_)), Or.elim hk_ (fun hs_ => hs_.2) (fun hn_ => (Kd.fresh' (Kd.N_lt (kN HO406.out)) k_ hn_)), Or.elim hk_ (fun hs_ => hs_.1.2.2.1) (fun hn_ => (Kd.freshB (rb BK366.out) k_ hn_)), Or.elim hk_ (fun hs_ => hs_.1.2.2.2.1) (fun hn_ => (Kd.freshB (g := gb367) (o := .cells #[.int .i64 0, .int .i64 0, .string (⟨#[]⟩ : ByteArray), .slice none 0 0] 54 (0, 0)) (rb BK367.out) k_ hn_)), Or.elim hk_ (fun hs_ => hs_.1.2.2.2.2) (fun hn_ => (Kd.freshB (rb BK390.out) k_ hn_))⟩)) (below_size bb))
          have n4_ := Aside0.mk (blk_below (rb BK366.out) hb)
          have n5_ := Aside0.mk (blk_below (g := gb367) (o := .cells #[.int .i64 0, .int .i64 0, .string (⟨#[]⟩ : ByteArray), .slice none 0 0] 54 (0, 0)) (rb BK367.out) hb)
          have n6_ := Aside0.mk (blk_below (rb BK390.out) hb)
          have n7_ := Aside0.mk (below_step bb hb)
          clear HO_3
          clear HO_6
          clear HO406
          clear BK366
          clear BK367
          clear BK390
          clear HB
          have HO_3 := n0_
          have HO_6 := n1_
          have HO406 := n2_
          have HO412 := n3_
          have BK366 := n4_
          have BK367 := n5_
          have BK390 := n6_
          have HB := n7_
          clear n0_ n1_ n2_ n3_ n4_ n5_ n6_ n7_
          (try clear hb)
          (try clear hb2)
          (try clear hk)
          (try clear hi)
          (try clear ho0)
          refine hK.out _ _ ⟨(blk_cell BK390.out 0).trans rfl, (blk_cell BK390.out 1).trans rfl, (blk_cell BK390.out 2).trans rfl, (blk_cell BK390.out 3).trans rfl, (blk_cell BK390.out 4).trans rfl, (blk_cell BK390.out 5).trans rfl⟩ (fun hHeld => ?_)
          clear hK K
          refine norm_ (a' := ?_) ?_ ?_
          rotate_left
          ·show Act.put _ (some 34) _ = _
           simp only [Act.put, List.setIfInBounds_toArray, List.set_cons_zero, List.set_cons_succ, i64_w, i32_w]
           rfl
          refine one_ (i := 8) (N := some 37) #[true, true, true, true, true, true, true, true, true, true, true, false, true, true, false, true, true, false, false, false, false, false, false] rfl rfl (one_of HT_.out (by kernel_rfl)) (by decide) (fun K hK => ?_)
          refine goes_ Try.func48 (by kernel_rfl) rfl #[.int .i64 ((rd_T48 l0_1 x12_1).f2)] (by rfl) rfl rfl ag ?_
          with_reducible refine (pack_Num.calls ((rd_T48 l0_1 x12_1).f2) t413 t414 t415 t416 _ A23.out).mono ?_
          rintro e w33 ⟨v417, rfl, ho0, hb⟩
          refine ⟨_, rfl, ?_⟩
          have n0_ := Aside0.mk (Kd.N_elder' (kN HO_3.out) (by first | exact Kd.N_base ho0 | exact Kd.N_base (Kd.R_N ho0)) hb)
          have n1_ := Aside0.mk (Kd.N_elder' (kN HO_6.out) (by first | exact Kd.N_base ho0 | exact Kd.N_base (Kd.R_N ho0)) hb)
          have n2_ := Aside0.mk (Kd.N_elder' (kN HO406.out) (by first | exact Kd.N_base ho0 | exact Kd.N_base (Kd.R_N ho0)) hb)
          have n3_ := Aside0.mk (Kd.N_elder' (kN HO412.out) (by first | exact Kd.N_base ho0 | exact Kd.N_base (Kd.R_N ho0)) hb)
          have n4_ := Aside0.mk (Kd.N_lower (Kd.N_mono (ok' := fun k_ => (w.heap.size ≤ k_) ∧ some k_ ≠ (u3 : Value).ownBlock ∧ some k_ ≠ (.slice Ao31 x6_2.length co31 : Value).ownBlock ∧ some k_ ≠ (v405 : Value).ownBlock ∧ some k_ ≠ (v411 : Value).ownBlock ∧ k_ ≠ gb366 ∧ k_ ≠ gb367 ∧ k_ ≠ gb390) (Kd.R_N (Kd.R_bound ho0)) (fun k_ hk_ => ⟨(Nat.le_trans (below_size bb) hk_.2.1), (Kd.fresh' (Kd.N_lt (kN HO_3.out)) k_ hk_.2.1), (Kd.fresh' (Kd.N_lt (kN HO_6.out)) k_ hk_.2.1), (Kd.fresh' (Kd.N_lt (kN HO406.out)) k_ hk_.2.1), (Kd.fresh' (Kd.N_lt (kN HO412.out)) k_ hk_.2.1), (Kd.freshB (rb BK366.out) k_ hk_.2.1), (Kd.freshB (g := gb367) (o := .cells #[.int .i64 0, .int .i64 0, .string (⟨#[]⟩ : ByteArray), .slice none 0 0] 54 (0, 0)) (rb BK367.out) k_ hk_.2.1), (Kd.freshB (rb BK390.out) k_ hk_.2.1)⟩)) (below_size bb))
          have n5_ := Aside0.mk (blk_below (rb BK366.out) hb)
          have n6_ := Aside0.mk (blk_below (g := gb367) (o := .cells #[.int .i64 0, .int .i64 0, .string (⟨#[]⟩ : ByteArray), .slice none 0 0] 54 (0, 0)) (rb BK367.out) hb)
          have n7_ := Aside0.mk (blk_below (rb BK390.out) hb)
          have n8_ := Aside0.mk (below_step bb hb)
          clear HO_3
          clear HO_6
          clear HO406
          clear HO412
          clear BK366
          clear BK367
          clear BK390
          clear HB
          have HO_3 := n0_
          have HO_6 := n1_
          have HO406 := n2_
          have HO412 := n3_
          have HO418 := n4_
          have BK366 := n5_
          have BK367 := n6_
          have BK390 := n7_
          have HB := n8_
          clear n0_ n1_ n2_ n3_ n4_ n5_ n6_ n7_ n8_
          (try clear hb)
          (try clear hb2)
          (try clear hk)
          (try clear hi)
          (try clear ho0)
          refine hK.out _ _ ⟨(blk_cell BK390.out 0).trans rfl, (blk_cell BK390.out 1).trans rfl, (blk_cell BK390.out 2).trans rfl, (blk_cell BK390.out 3).trans rfl, (blk_cell BK390.out 4).trans rfl, (blk_cell BK390.out 5).trans rfl⟩ (fun hHeld => ?_)
          clear hK K
          refine norm_ (a' := ?_) ?_ ?_
          rotate_left
          ·show Act.put _ (some 37) _ = _
           simp only [Act.put, List.setIfInBounds_toArray, List.set_cons_zero, List.set_cons_succ, i64_w, i32_w]
           rfl
          refine one_ (i := 11) (N := some 40) #[true, true, true, true, true, true, true, true, true, true, true, true, true, true, false, true, true, false, false, false, false, false, false] rfl rfl (one_of HT_.out (by kernel_rfl)) (by decide) (fun K hK => ?_)
          refine goes_ Try.func48 (by kernel_rfl) rfl #[.int .i64 ((rd_T48 l0_1 x12_1).f3)] (by rfl) rfl rfl ag ?_
          with_reducible refine (pack_Num.calls ((rd_T48 l0_1 x12_1).f3) t419 t420 t421 t422 _ A24.out).mono ?_
          rintro e w34 ⟨v423, rfl, ho0, hb⟩
          refine ⟨_, rfl, ?_⟩
          have n0_ := Aside0.mk (Kd.N_elder' (kN HO_3.out) (by first | exact Kd.N_base ho0 | exact Kd.N_base (Kd.R_N ho0)) hb)
          have n1_ := Aside0.mk (Kd.N_elder' (kN HO_6.out) (by first | exact Kd.N_base ho0 | exact Kd.N_base (Kd.R_N ho0)) hb)
          have n2_ := Aside0.mk (Kd.N_elder' (kN HO406.out) (by first | exact Kd.N_base ho0 | exact Kd.N_base (Kd.R_N ho0)) hb)
          have n3_ := Aside0.mk (Kd.N_elder' (kN HO412.out) (by first | exact Kd.N_base ho0 | exact Kd.N_base (Kd.R_N ho0)) hb)
          have n4_ := Aside0.mk (Kd.N_elder' (kN HO418.out) (by first | exact Kd.N_base ho0 | exact Kd.N_base (Kd.R_N ho0)) hb)
          have n5_ := Aside0.mk (Kd.N_lower (Kd.N_mono (ok' := fun k_ => (w.heap.size ≤ k_) ∧ some k_ ≠ (u3 : Value).ownBlock ∧ some k_ ≠ (.slice Ao31 x6_2.length co31 : Value).ownBlock ∧ some k_ ≠ (v405 : Value).ownBlock ∧ some k_ ≠ (v411 : Value).ownBlock ∧ some k_ ≠ (v417 : Value).ownBlock ∧ k_ ≠ gb366 ∧ k_ ≠ gb367 ∧ k_ ≠ gb390) (Kd.R_N (Kd.R_bound ho0)) (fun k_ hk_ => ⟨(Nat.le_trans (below_size bb) hk_.2.1), (Kd.fresh' (Kd.N_lt (kN HO_3.out)) k_ hk_.2.1), (Kd.fresh' (Kd.N_lt (kN HO_6.out)) k_ hk_.2.1), (Kd.fresh' (Kd.N_lt (kN HO406.out)) k_ hk_.2.1), (Kd.fresh' (Kd.N_lt (kN HO412.out)) k_ hk_.2.1), (Kd.fresh' (Kd.N_lt (kN HO418.out)) k_ hk_.2.1), (Kd.freshB (rb BK366.out) k_ hk_.2.1), (Kd.freshB (g := gb367) (o := .cells #[.int .i64 0, .int .i64 0, .string (⟨#[]⟩ : ByteArray), .slice none 0 0] 54 (0, 0)) (rb BK367.out) k_ hk_.2.1), (Kd.freshB (rb BK390.out) k_ hk_.2.1)⟩)) (below_size bb))
          have n6_ := Aside0.mk (blk_below (rb BK366.out) hb)
          have n7_ := Aside0.mk (blk_below (g := gb367) (o := .cells #[.int .i64 0, .int .i64 0, .string (⟨#[]⟩ : ByteArray), .slice none 0 0] 54 (0, 0)) (rb BK367.out) hb)
          have n8_ := Aside0.mk (blk_below (rb BK390.out) hb)
          have n9_ := Aside0.mk (below_step bb hb)
          clear HO_3
          clear HO_6
          clear HO406
          clear HO412
          clear HO418
          clear BK366
          clear BK367
          clear BK390
          clear HB
          have HO_3 := n0_
          have HO_6 := n1_
          have HO406 := n2_
          have HO412 := n3_
          have HO418 := n4_
          have HO424 := n5_
          have BK366 := n6_
          have BK367 := n7_
          have BK390 := n8_
          have HB := n9_
          clear n0_ n1_ n2_ n3_ n4_ n5_ n6_ n7_ n8_ n9_
          (try clear hb)
          (try clear hb2)
          (try clear hk)
          (try clear hi)
          (try clear ho0)
          refine hK.out _ _ ⟨(blk_cell BK390.out 0).trans rfl, (blk_cell BK390.out 1).trans rfl, (blk_cell BK390.out 2).trans rfl, (blk_cell BK390.out 3).trans rfl, (blk_cell BK390.out 4).trans rfl, (blk_cell BK390.out 5).trans rfl⟩ (fun hHeld => ?_)
          clear hK K
          refine norm_ (a' := ?_) ?_ ?_
          rotate_left
          ·show Act.put _ (some 40) _ = _
           simp only [Act.put, List.setIfInBounds_toArray, List.set_cons_zero, List.set_cons_succ, i64_w, i32_w]
           rfl
          refine one_ (i := 14) (N := some 43) #[true, true, true, true, true, true, true, true, true, true, true, true, true, true, true, true, true, false, false, false, false, false, false] rfl rfl (one_of HT_.out (by kernel_rfl)) (by decide) (fun K hK => ?_)
          refine goes_ Try.func48 (by kernel_rfl) rfl #[.int .i64 ((rd_T48 l0_1 x12_1).f4)] (by rfl) rfl rfl ag ?_
          with_reducible refine (pack_Num.calls ((rd_T48 l0_1 x12_1).f4) t425 t426 t427 t428 _ A25.out).mono ?_
          rintro e w35 ⟨v429, rfl, ho0, hb⟩
          refine ⟨_, rfl, ?_⟩
          have n0_ := Aside0.mk (Kd.N_elder' (kN HO_3.out) (by first | exact Kd.N_base ho0 | exact Kd.N_base (Kd.R_N ho0)) hb)
          have n1_ := Aside0.mk (Kd.N_elder' (kN HO_6.out) (by first | exact Kd.N_base ho0 | exact Kd.N_base (Kd.R_N ho0)) hb)
          have n2_ := Aside0.mk (Kd.N_elder' (kN HO406.out) (by first | exact Kd.N_base ho0 | exact Kd.N_base (Kd.R_N ho0)) hb)
          have n3_ := Aside0.mk (Kd.N_elder' (kN HO412.out) (by first | exact Kd.N_base ho0 | exact Kd.N_base (Kd.R_N ho0)) hb)
          have n4_ := Aside0.mk (Kd.N_elder' (kN HO418.out) (by first | exact Kd.N_base ho0 | exact Kd.N_base (Kd.R_N ho0)) hb)
          have n5_ := Aside0.mk (Kd.N_elder' (kN HO424.out) (by first | exact Kd.N_base ho0 | exact Kd.N_base (Kd.R_N ho0)) hb)
          have n6_ := Aside0.mk (Kd.N_lower (Kd.N_mono (ok' := fun k_ => (w.heap.size ≤ k_) ∧ some k_ ≠ (u3 : Value).ownBlock ∧ some k_ ≠ (.slice Ao31 x6_2.length co31 : Value).ownBlock ∧ some k_ ≠ (v405 : Value).ownBlock ∧ some k_ ≠ (v411 : Value).ownBlock ∧ some k_ ≠ (v417 : Value).ownBlock ∧ some k_ ≠ (v423 : Value).ownBlock ∧ k_ ≠ gb366 ∧ k_ ≠ gb367 ∧ k_ ≠ gb390) (Kd.R_N (Kd.R_bound ho0)) (fun k_ hk_ => ⟨(Nat.le_trans (below_size bb) hk_.2.1), (Kd.fresh' (Kd.N_lt (kN HO_3.out)) k_ hk_.2.1), (Kd.fresh' (Kd.N_lt (kN HO_6.out)) k_ hk_.2.1), (Kd.fresh' (Kd.N_lt (kN HO406.out)) k_ hk_.2.1), (Kd.fresh' (Kd.N_lt (kN HO412.out)) k_ hk_.2.1), (Kd.fresh' (Kd.N_lt (kN HO418.out)) k_ hk_.2.1), (Kd.fresh' (Kd.N_lt (kN HO424.out)) k_ hk_.2.1), (Kd.freshB (rb BK366.out) k_ hk_.2.1), (Kd.freshB (g := gb367) (o := .cells #[.int .i64 0, .int .i64 0, .string (⟨#[]⟩ : ByteArray), .slice none 0 0] 54 (0, 0)) (rb BK367.out) k_ hk_.2.1), (Kd.freshB (rb BK390.out) k_ hk_.2.1)⟩)) (below_size bb))
          have n7_ := Aside0.mk (blk_below (rb BK366.out) hb)
          have n8_ := Aside0.mk (blk_below (g := gb367) (o := .cells #[.int .i64 0, .int .i64 0, .string (⟨#[]⟩ : ByteArray), .slice none 0 0] 54 (0, 0)) (rb BK367.out) hb)
          have n9_ := Aside0.mk (blk_below (rb BK390.out) hb)
          have n10_ := Aside0.mk (below_step bb hb)
          clear HO_3
          clear HO_6
          clear HO406
          clear HO412
          clear HO418
          clear HO424
          clear BK366
          clear BK367
          clear BK390
          clear HB
          have HO_3 := n0_
          have HO_6 := n1_
          have HO406 := n2_
          have HO412 := n3_
          have HO418 := n4_
          have HO424 := n5_
          have HO430 := n6_
          have BK366 := n7_
          have BK367 := n8_
          have BK390 := n9_
          have HB := n10_
          clear n0_ n1_ n2_ n3_ n4_ n5_ n6_ n7_ n8_ n9_ n10_
          (try clear hb)
          (try clear hb2)
          (try clear hk)
          (try clear hi)
          (try clear ho0)
          refine hK.out _ _ ⟨(blk_cell BK390.out 0).trans rfl, (blk_cell BK390.out 1).trans rfl, (blk_cell BK390.out 2).trans rfl, (blk_cell BK390.out 3).trans rfl, (blk_cell BK390.out 4).trans rfl, (blk_cell BK390.out 5).trans rfl⟩ (fun hHeld => ?_)
          clear hK K
          refine norm_ (a' := ?_) ?_ ?_
          rotate_left
          ·show Act.put _ (some 43) _ = _
           simp only [Act.put, List.setIfInBounds_toArray, List.set_cons_zero, List.set_cons_succ, i64_w, i32_w]
           rfl
          refine one_ (i := 17) (N := some 46) #[true, true, true, true, true, true, true, true, true, true, true, true, true, true, true, true, true, true, false, false, false, false, false] rfl rfl (one_of HT_.out (by kernel_rfl)) (by decide) (fun K hK => ?_)
          refine goes_ Try.func64 (by kernel_rfl) rfl #[.string ((rd_T48 l0_1 x12_1).f5)] (by rfl) rfl rfl ag ?_
          with_reducible refine (pack_Str.calls ((rd_T48 l0_1 x12_1).f5) t431 t432 t433 t434 _ A26.out).mono ?_
          rintro e w36 ⟨v435, rfl, ho0, hb⟩
          refine ⟨_, rfl, ?_⟩
          have n0_ := Aside0.mk (Kd.N_elder' (kN HO_3.out) (by first | exact Kd.N_base ho0 | exact Kd.N_base (Kd.R_N ho0)) hb)
          have n1_ := Aside0.mk (Kd.N_elder' (kN HO_6.out) (by first | exact Kd.N_base ho0 | exact Kd.N_base (Kd.R_N ho0)) hb)
          have n2_ := Aside0.mk (Kd.N_elder' (kN HO406.out) (by first | exact Kd.N_base ho0 | exact Kd.N_base (Kd.R_N ho0)) hb)
          have n3_ := Aside0.mk (Kd.N_elder' (kN HO412.out) (by first | exact Kd.N_base ho0 | exact Kd.N_base (Kd.R_N ho0)) hb)
          have n4_ := Aside0.mk (Kd.N_elder' (kN HO418.out) (by first | exact Kd.N_base ho0 | exact Kd.N_base (Kd.R_N ho0)) hb)
          have n5_ := Aside0.mk (Kd.N_elder' (kN HO424.out) (by first | exact Kd.N_base ho0 | exact Kd.N_base (Kd.R_N ho0)) hb)
          have n6_ := Aside0.mk (Kd.N_elder' (kN HO430.out) (by first | exact Kd.N_base ho0 | exact Kd.N_base (Kd.R_N ho0)) hb)
          have n7_ := Aside0.mk (Kd.N_lower (Kd.N_mono (ok' := fun k_ => (w.heap.size ≤ k_) ∧ some k_ ≠ (u3 : Value).ownBlock ∧ some k_ ≠ (.slice Ao31 x6_2.length co31 : Value).ownBlock ∧ some k_ ≠ (v405 : Value).ownBlock ∧ some k_ ≠ (v411 : Value).ownBlock ∧ some k_ ≠ (v417 : Value).ownBlock ∧ some k_ ≠ (v423 : Value).ownBlock ∧ some k_ ≠ (v429 : Value).ownBlock ∧ k_ ≠ gb366 ∧ k_ ≠ gb367 ∧ k_ ≠ gb390) (Kd.R_N (Kd.R_bound ho0)) (fun k_ hk_ => ⟨(Nat.le_trans (below_size bb) hk_.2.1), (Kd.fresh' (Kd.N_lt (kN HO_3.out)) k_ hk_.2.1), (Kd.fresh' (Kd.N_lt (kN HO_6.out)) k_ hk_.2.1), (Kd.fresh' (Kd.N_lt (kN HO406.out)) k_ hk_.2.1), (Kd.fresh' (Kd.N_lt (kN HO412.out)) k_ hk_.2.1), (Kd.fresh' (Kd.N_lt (kN HO418.out)) k_ hk_.2.1), (Kd.fresh' (Kd.N_lt (kN HO424.out)) k_ hk_.2.1), (Kd.fresh' (Kd.N_lt (kN HO430.out)) k_ hk_.2.1), (Kd.freshB (rb BK366.out) k_ hk_.2.1), (Kd.freshB (g := gb367) (o := .cells #[.int .i64 0, .int .i64 0, .string (⟨#[]⟩ : ByteArray), .slice none 0 0] 54 (0, 0)) (rb BK367.out) k_ hk_.2.1), (Kd.freshB (rb BK390.out) k_ hk_.2.1)⟩)) (below_size bb))
          have n8_ := Aside0.mk (blk_below (rb BK366.out) hb)
          have n9_ := Aside0.mk (blk_below (g := gb367) (o := .cells #[.int .i64 0, .int .i64 0, .string (⟨#[]⟩ : ByteArray), .slice none 0 0] 54 (0, 0)) (rb BK367.out) hb)
          have n10_ := Aside0.mk (blk_below (rb BK390.out) hb)
          have n11_ := Aside0.mk (below_step bb hb)
          clear HO_3
          clear HO_6
          clear HO406
          clear HO412
          clear HO418
          clear HO424
          clear HO430
          clear BK366
          clear BK367
          clear BK390
          clear HB
          have HO_3 := n0_
          have HO_6 := n1_
          have HO406 := n2_
          have HO412 := n3_
          have HO418 := n4_
          have HO424 := n5_
          have HO430 := n6_
          have HO436 := n7_
          have BK366 := n8_
          have BK367 := n9_
          have BK390 := n10_
          have HB := n11_
          clear n0_ n1_ n2_ n3_ n4_ n5_ n6_ n7_ n8_ n9_ n10_ n11_
          (try clear hb)
          (try clear hb2)
          (try clear hk)
          (try clear hi)
          (try clear ho0)
          obtain ⟨Ao37, co37, eo37⟩ := Kd.N_slice HO406.out
          (first | subst eo37 | (injection eo37 with f1_ f2_ f3_; have f4_ := f1_.symm; have f5_ := f3_.symm; clear f1_ f2_ f3_; subst f4_; subst f5_))
          obtain ⟨Ao38, co38, eo38⟩ := Kd.N_slice HO412.out
          (first | subst eo38 | (injection eo38 with f1_ f2_ f3_; have f4_ := f1_.symm; have f5_ := f3_.symm; clear f1_ f2_ f3_; subst f4_; subst f5_))
          obtain ⟨Ao39, co39, eo39⟩ := Kd.N_slice HO418.out
          (first | subst eo39 | (injection eo39 with f1_ f2_ f3_; have f4_ := f1_.symm; have f5_ := f3_.symm; clear f1_ f2_ f3_; subst f4_; subst f5_))
          obtain ⟨Ao40, co40, eo40⟩ := Kd.N_slice HO424.out
          (first | subst eo40 | (injection eo40 with f1_ f2_ f3_; have f4_ := f1_.symm; have f5_ := f3_.symm; clear f1_ f2_ f3_; subst f4_; subst f5_))
          obtain ⟨Ao41, co41, eo41⟩ := Kd.N_slice HO430.out
          (first | subst eo41 | (injection eo41 with f1_ f2_ f3_; have f4_ := f1_.symm; have f5_ := f3_.symm; clear f1_ f2_ f3_; subst f4_; subst f5_))
          obtain ⟨Ao42, co42, eo42⟩ := Kd.N_slice HO436.out
          (first | subst eo42 | (injection eo42 with f1_ f2_ f3_; have f4_ := f1_.symm; have f5_ := f3_.symm; clear f1_ f2_ f3_; subst f4_; subst f5_))
          refine hK.out _ _ ⟨(blk_cell BK390.out 0).trans rfl, (blk_cell BK390.out 1).trans rfl, (blk_cell BK390.out 2).trans rfl, (blk_cell BK390.out 3).trans rfl, (blk_cell BK390.out 4).trans rfl, (blk_cell BK390.out 5).trans rfl⟩ (fun hHeld => ?_)
          clear hK K
          refine norm_ (a' := ?_) ?_ ?_
          rotate_left
          ·show Act.put _ (some 46) _ = _
           simp only [Act.put, List.setIfInBounds_toArray, List.set_cons_zero, List.set_cons_succ, i64_w, i32_w]
           rfl
          refine one_ (i := 18) (N := some 47) #[true, true, true, true, true, true, true, true, true, true, true, true, true, true, true, true, true, true, true, false, false, false, false] rfl rfl (one_of HT_.out (by kernel_rfl)) (by decide) (fun K hK => ?_)
          refine Kd.N_lit_step k54 _ 54 ?hg (N' := 47) ?hd (xs := ([(⟨t401, t402, t403, t404⟩ : S54), (⟨t407, t408, t409, t410⟩ : S54), (⟨t413, t414, t415, t416⟩ : S54), (⟨t419, t420, t421, t422⟩ : S54), (⟨t425, t426, t427, t428⟩ : S54), (⟨t431, t432, t433, t434⟩ : S54)] : List (S54))) (inner := [.int .i64 t401, .int .i64 t402, .string t403, .slice Ao37 t404.length co37, .int .i64 t407, .int .i64 t408, .string t409, .slice Ao38 t410.length co38, .int .i64 t413, .int .i64 t414, .string t415, .slice Ao39 t416.length co39, .int .i64 t419, .int .i64 t420, .string t421, .slice Ao40 t422.length co40, .int .i64 t425, .int .i64 t426, .string t427, .slice Ao41 t428.length co41, .int .i64 t431, .int .i64 t432, .string t433, .slice Ao42 t434.length co42]) (ok := (fun k_ => (w.heap.size ≤ k_) ∧ some k_ ≠ (u3 : Value).ownBlock ∧ k_ ≠ gb366 ∧ k_ ≠ gb367 ∧ k_ ≠ gb390)) (okp := (fun k_ => (w.heap.size ≤ k_) ∧ some k_ ≠ (u3 : Value).ownBlock ∧ k_ ≠ gb366 ∧ k_ ≠ gb367 ∧ k_ ≠ gb390)) ?hr ?hp (fun _ hk => hk) ((show ∀ k_, w36.heap.size ≤ k_ → (fun k_ => (w.heap.size ≤ k_) ∧ some k_ ≠ (u3 : Value).ownBlock ∧ k_ ≠ gb366 ∧ k_ ≠ gb367 ∧ k_ ≠ gb390) k_ from fun k_ hk => ⟨(Nat.le_trans (below_size bb) hk), Kd.fresh' (Kd.N_lt (kN HO_3.out)) k_ hk, Kd.freshB (rb BK366.out) k_ hk, Kd.freshB (g := gb367) (o := .cells #[.int .i64 0, .int .i64 0, .string (⟨#[]⟩ : ByteArray), .slice none 0 0] 54 (0, 0)) (rb BK367.out) k_ hk, Kd.freshB (rb BK390.out) k_ hk⟩) _ (Nat.le_refl _)) (Below.refl _ _) (Nat.le_refl _) (by simp) ?_; (case hd => rfl); (case hg => rfl); (case hr => first | (go_simp; done) | (go_simp; rfl)); (case hp => exact (Reps.c4 (show Kd.FK k54 _ _ (⟨t401, t402, t403, t404⟩ : S54) [.int .i64 t401, .int .i64 t402, .string t403, .slice Ao37 t404.length co37] from (k54_mkF _ _ (⟨t401, t402, t403, t404⟩ : S54) (Kd.N_reads' (Kd.N_mono (ok' := (fun k_ => (w.heap.size ≤ k_) ∧ some k_ ≠ (u3 : Value).ownBlock ∧ k_ ≠ gb366 ∧ k_ ≠ gb367 ∧ k_ ≠ gb390)) (HO406.out) (fun k_ hk => ⟨hk.1.1.1.1.1.1, ⟨hk.1.1.1.1.1.2.1, ⟨hk.1.1.1.1.1.2.2.2.1, ⟨hk.1.1.1.1.1.2.2.2.2.1, hk.1.1.1.1.1.2.2.2.2.2⟩⟩⟩⟩))).2.1 (Kd.N_F (Kd.N_mono (ok' := (fun k_ => (w.heap.size ≤ k_) ∧ some k_ ≠ (u3 : Value).ownBlock ∧ k_ ≠ gb366 ∧ k_ ≠ gb367 ∧ k_ ≠ gb390)) (HO406.out) (fun k_ hk => ⟨hk.1.1.1.1.1.1, ⟨hk.1.1.1.1.1.2.1, ⟨hk.1.1.1.1.1.2.2.2.1, ⟨hk.1.1.1.1.1.2.2.2.2.1, hk.1.1.1.1.1.2.2.2.2.2⟩⟩⟩⟩))))) (Reps.c4 (show Kd.FK k54 _ _ (⟨t407, t408, t409, t410⟩ : S54) [.int .i64 t407, .int .i64 t408, .string t409, .slice Ao38 t410.length co38] from (k54_mkF _ _ (⟨t407, t408, t409, t410⟩ : S54) (Kd.N_reads' (Kd.N_mono (ok' := (fun k_ => (w.heap.size ≤ k_) ∧ some k_ ≠ (u3 : Value).ownBlock ∧ k_ ≠ gb366 ∧ k_ ≠ gb367 ∧ k_ ≠ gb390)) (HO412.out) (fun k_ hk => ⟨hk.1.1.1.1.1, ⟨hk.1.1.1.1.2.1, ⟨hk.1.1.1.1.2.2.2.1, ⟨hk.1.1.1.1.2.2.2.2.1, hk.1.1.1.1.2.2.2.2.2⟩⟩⟩⟩))).2.1 (Kd.N_F (Kd.N_mono (ok' := (fun k_ => (w.heap.size ≤ k_) ∧ some k_ ≠ (u3 : Value).ownBlock ∧ k_ ≠ gb366 ∧ k_ ≠ gb367 ∧ k_ ≠ gb390)) (HO412.out) (fun k_ hk => ⟨hk.1.1.1.1.1, ⟨hk.1.1.1.1.2.1, ⟨hk.1.1.1.1.2.2.2.1, ⟨hk.1.1.1.1.2.2.2.2.1, hk.1.1.1.1.2.2.2.2.2⟩⟩⟩⟩))))) (Reps.c4 (show Kd.FK k54 _ _ (⟨t413, t414, t415, t416⟩ : S54) [.int .i64 t413, .int .i64 t414, .string t415, .slice Ao39 t416.length co39] from (k54_mkF _ _ (⟨t413, t414, t415, t416⟩ : S54) (Kd.N_reads' (Kd.N_mono (ok' := (fun k_ => (w.heap.size ≤ k_) ∧ some k_ ≠ (u3 : Value).ownBlock ∧ k_ ≠ gb366 ∧ k_ ≠ gb367 ∧ k_ ≠ gb390)) (HO418.out) (fun k_ hk => ⟨hk.1.1.1.1, ⟨hk.1.1.1.2.1, ⟨hk.1.1.1.2.2.2.2.2.1, ⟨hk.1.1.1.2.2.2.2.2.2.1, hk.1.1.1.2.2.2.2.2.2.2⟩⟩⟩⟩))).2.1 (Kd.N_F (Kd.N_mono (ok' := (fun k_ => (w.heap.size ≤ k_) ∧ some k_ ≠ (u3 : Value).ownBlock ∧ k_ ≠ gb366 ∧ k_ ≠ gb367 ∧ k_ ≠ gb390)) (HO418.out) (fun k_ hk => ⟨hk.1.1.1.1, ⟨hk.1.1.1.2.1, ⟨hk.1.1.1.2.2.2.2.2.1, ⟨hk.1.1.1.2.2.2.2.2.2.1, hk.1.1.1.2.2.2.2.2.2.2⟩⟩⟩⟩))))) (Reps.c4 (show Kd.FK k54 _ _ (⟨t419, t420, t421, t422⟩ : S54) [.int .i64 t419, .int .i64 t420, .string t421, .slice Ao40 t422.length co40] from (k54_mkF _ _ (⟨t419, t420, t421, t422⟩ : S54) (Kd.N_reads' (Kd.N_mono (ok' := (fun k_ => (w.heap.size ≤ k_) ∧ some k_ ≠ (u3 : Value).ownBlock ∧ k_ ≠ gb366 ∧ k_ ≠ gb367 ∧ k_ ≠ gb390)) (HO424.out) (fun k_ hk => ⟨hk.1.1.1, ⟨hk.1.1.2.1, ⟨hk.1.1.2.2.2.2.2.2.1, ⟨hk.1.1.2.2.2.2.2.2.2.1, hk.1.1.2.2.2.2.2.2.2.2⟩⟩⟩⟩))).2.1 (Kd.N_F (Kd.N_mono (ok' := (fun k_ => (w.heap.size ≤ k_) ∧ some k_ ≠ (u3 : Value).ownBlock ∧ k_ ≠ gb366 ∧ k_ ≠ gb367 ∧ k_ ≠ gb390)) (HO424.out) (fun k_ hk => ⟨hk.1.1.1, ⟨hk.1.1.2.1, ⟨hk.1.1.2.2.2.2.2.2.1, ⟨hk.1.1.2.2.2.2.2.2.2.1, hk.1.1.2.2.2.2.2.2.2.2⟩⟩⟩⟩))))) (Reps.c4 (show Kd.FK k54 _ _ (⟨t425, t426, t427, t428⟩ : S54) [.int .i64 t425, .int .i64 t426, .string t427, .slice Ao41 t428.length co41] from (k54_mkF _ _ (⟨t425, t426, t427, t428⟩ : S54) (Kd.N_reads' (Kd.N_mono (ok' := (fun k_ => (w.heap.size ≤ k_) ∧ some k_ ≠ (u3 : Value).ownBlock ∧ k_ ≠ gb366 ∧ k_ ≠ gb367 ∧ k_ ≠ gb390)) (HO430.out) (fun k_ hk => ⟨hk.1.1, ⟨hk.1.2.1, ⟨hk.1.2.2.2.2.2.2.2.1, ⟨hk.1.2.2.2.2.2.2.2.2.1, hk.1.2.2.2.2.2.2.2.2.2⟩⟩⟩⟩))).2.1 (Kd.N_F (Kd.N_mono (ok' := (fun k_ => (w.heap.size ≤ k_) ∧ some k_ ≠ (u3 : Value).ownBlock ∧ k_ ≠ gb366 ∧ k_ ≠ gb367 ∧ k_ ≠ gb390)) (HO430.out) (fun k_ hk => ⟨hk.1.1, ⟨hk.1.2.1, ⟨hk.1.2.2.2.2.2.2.2.1, ⟨hk.1.2.2.2.2.2.2.2.2.1, hk.1.2.2.2.2.2.2.2.2.2⟩⟩⟩⟩))))) (Reps.c4 (show Kd.FK k54 _ _ (⟨t431, t432, t433, t434⟩ : S54) [.int .i64 t431, .int .i64 t432, .string t433, .slice Ao42 t434.length co42] from (k54_mkF _ _ (⟨t431, t432, t433, t434⟩ : S54) (Kd.N_reads' (Kd.N_mono (ok' := (fun k_ => (w.heap.size ≤ k_) ∧ some k_ ≠ (u3 : Value).ownBlock ∧ k_ ≠ gb366 ∧ k_ ≠ gb367 ∧ k_ ≠ gb390)) (HO436.out) (fun k_ hk => ⟨hk.1, ⟨hk.2.1, ⟨hk.2.2.2.2.2.2.2.2.1, ⟨hk.2.2.2.2.2.2.2.2.2.1, hk.2.2.2.2.2.2.2.2.2.2⟩⟩⟩⟩))).2.1 (Kd.N_F (Kd.N_mono (ok' := (fun k_ => (w.heap.size ≤ k_) ∧ some k_ ≠ (u3 : Value).ownBlock ∧ k_ ≠ gb366 ∧ k_ ≠ gb367 ∧ k_ ≠ gb390)) (HO436.out) (fun k_ hk => ⟨hk.1, ⟨hk.2.1, ⟨hk.2.2.2.2.2.2.2.2.1, ⟨hk.2.2.2.2.2.2.2.2.2.1, hk.2.2.2.2.2.2.2.2.2.2⟩⟩⟩⟩))))) (Reps.none _ _))))))))
          intro v438 w43 ho44 hb hg_ hnew_
          clear hg_ hnew_
          (first | rw [← Ny437.out] at ho44 | (simp only [Int.reduceToNat] at ho44; rw [← Ny437.out] at ho44))
          have n0_ := Aside0.mk (Kd.N_elder' (kN HO_3.out) (by first | exact Kd.N_base ho44 | exact Kd.N_base (Kd.R_N ho44)) hb)
          have n1_ := Aside0.mk (Kd.N_elder' (kN HO_6.out) (by first | exact Kd.N_base ho44 | exact Kd.N_base (Kd.R_N ho44)) hb)
          have n2_ := Aside0.mk (Kd.N_lower ho44 (below_size bb))
          have n3_ := Aside0.mk (blk_below (rb BK366.out) hb)
          have n4_ := Aside0.mk (blk_below (g := gb367) (o := .cells #[.int .i64 0, .int .i64 0, .string (⟨#[]⟩ : ByteArray), .slice none 0 0] 54 (0, 0)) (rb BK367.out) hb)
          have n5_ := Aside0.mk (blk_below (rb BK390.out) hb)
          have n6_ := Aside0.mk (below_step bb hb)
          clear HO_3
          clear HO_6
          clear BK366
          clear BK367
          clear BK390
          clear HB
          clear HO406
          clear HO412
          clear HO418
          clear HO424
          clear HO430
          clear HO436
          have HO_3 := n0_
          have HO_6 := n1_
          have HO439 := n2_
          have BK366 := n3_
          have BK367 := n4_
          have BK390 := n5_
          have HB := n6_
          clear n0_ n1_ n2_ n3_ n4_ n5_ n6_
          clear hb ho44
          obtain ⟨Ao45, co45, eo45⟩ := Kd.N_slice HO439.out
          (first | subst eo45 | (injection eo45 with f1_ f2_ f3_; have f4_ := f1_.symm; have f5_ := f3_.symm; clear f1_ f2_ f3_; subst f4_; subst f5_))
          refine hK.out _ _ ⟨(blk_cell BK390.out 0).trans rfl, (blk_cell BK390.out 1).trans rfl, (blk_cell BK390.out 2).trans rfl, (blk_cell BK390.out 3).trans rfl, (blk_cell BK390.out 4).trans rfl, (blk_cell BK390.out 5).trans rfl⟩ (fun hHeld => ?_)
          clear hK K
          refine norm_ (a' := ?_) ?_ ?_
          rotate_left
          ·show Act.put _ (some 47) _ = _
           simp only [Act.put, List.setIfInBounds_toArray, List.set_cons_zero, List.set_cons_succ, i64_w, i32_w]
           rfl
          refine one_ (i := 19) (N := some 48) #[true, true, true, true, true, true, true, true, true, true, true, true, true, true, true, true, true, true, true, true, false, false, false] rfl rfl (one_of HT_.out (by kernel_rfl)) (by decide) (fun K hK => ?_)
          refine goes_ Try.func40 (by kernel_rfl) rfl #[.slice Ao45 y437.length co45] (by rfl) rfl rfl ag ?_
          with_reducible refine (pack_All.calls (fun k_ => ((w.heap.size ≤ k_) ∧ (some k_ ≠ (u3 : Value).ownBlock ∧ (k_ ≠ gb366 ∧ (k_ ≠ gb367 ∧ k_ ≠ gb390))))) _ _ y437 t440 t441 t442 t443 _ ?side1 A27.out).mono ?_
          (case side1 => exact Kd.N_V (HO439.out))
          rintro e w46 ⟨v444, rfl, ho0, hb⟩
          refine ⟨_, rfl, ?_⟩
          have n0_ := Aside0.mk (Kd.N_elder' (kN HO_3.out) (by first | exact Kd.N_base ho0 | exact Kd.N_base (Kd.R_N ho0)) hb)
          have n1_ := Aside0.mk (Kd.N_elder' (kN HO_6.out) (by first | exact Kd.N_base ho0 | exact Kd.N_base (Kd.R_N ho0)) hb)
          have n2_ := Aside0.mk (Kd.N_elder' (kN HO439.out) (by first | exact Kd.N_base ho0 | exact Kd.N_base (Kd.R_N ho0)) hb)
          have n3_ := Aside0.mk (Kd.N_lower (Kd.N_mono (ok' := fun k_ => (w.heap.size ≤ k_) ∧ some k_ ≠ (u3 : Value).ownBlock ∧ k_ ≠ gb366 ∧ k_ ≠ gb367 ∧ k_ ≠ gb390) ho0 (fun k_ hk_ => ⟨Or.elim hk_ (fun hs_ => hs_.1) (fun hn_ => (Nat.le_trans (below_size bb) hn_)), Or.elim hk_ (fun hs_ => hs_.2.1) (fun hn_ => (Kd.fresh' (Kd.N_lt (kN HO_3.out)) k_ hn_)), Or.elim hk_ (fun hs_ => hs_.2.2.1) (fun hn_ => (Kd.freshB (rb BK366.out) k_ hn_)), Or.elim hk_ (fun hs_ => hs_.2.2.2.1) (fun hn_ => (Kd.freshB (g := gb367) (o := .cells #[.int .i64 0, .int .i64 0, .string (⟨#[]⟩ : ByteArray), .slice none 0 0] 54 (0, 0)) (rb BK367.out) k_ hn_)), Or.elim hk_ (fun hs_ => hs_.2.2.2.2) (fun hn_ => (Kd.freshB (rb BK390.out) k_ hn_))⟩)) (below_size bb))
          have n4_ := Aside0.mk (blk_below (rb BK366.out) hb)
          have n5_ := Aside0.mk (blk_below (g := gb367) (o := .cells #[.int .i64 0, .int .i64 0, .string (⟨#[]⟩ : ByteArray), .slice none 0 0] 54 (0, 0)) (rb BK367.out) hb)
          have n6_ := Aside0.mk (blk_below (rb BK390.out) hb)
          have n7_ := Aside0.mk (below_step bb hb)
          clear HO_3
          clear HO_6
          clear HO439
          clear BK366
          clear BK367
          clear BK390
          clear HB
          have HO_3 := n0_
          have HO_6 := n1_
          have HO439 := n2_
          have HO445 := n3_
          have BK366 := n4_
          have BK367 := n5_
          have BK390 := n6_
          have HB := n7_
          clear n0_ n1_ n2_ n3_ n4_ n5_ n6_ n7_
          (try clear hb)
          (try clear hb2)
          (try clear hk)
          (try clear hi)
          (try clear ho0)
          obtain ⟨Ao48, co48, eo48⟩ := Kd.N_slice HO445.out
          (first | subst eo48 | (injection eo48 with f1_ f2_ f3_; have f4_ := f1_.symm; have f5_ := f3_.symm; clear f1_ f2_ f3_; subst f4_; subst f5_))
          refine hK.out _ _ ⟨(blk_cell BK390.out 0).trans rfl, (blk_cell BK390.out 1).trans rfl, (blk_cell BK390.out 2).trans rfl, (blk_cell BK390.out 3).trans rfl, (blk_cell BK390.out 4).trans rfl, (blk_cell BK390.out 5).trans rfl⟩ (fun hHeld => ?_)
          clear hK K
          refine norm_ (a' := ?_) ?_ ?_
          rotate_left
          ·show Act.put _ (some 48) _ = _
           simp only [Act.put, List.setIfInBounds_toArray, List.set_cons_zero, List.set_cons_succ, i64_w, i32_w]
           rfl
          refine one_ (i := 20) (N := some 49) #[true, true, true, true, true, true, true, true, true, true, true, true, true, true, true, true, true, true, true, true, true, false, false] rfl rfl (one_of HT_.out (by kernel_rfl)) (by decide) (fun K hK => ?_)
          refine value_ (w1 := ?_) (v := ?_) (by rfl) rfl ?_ ?_
          rotate_left 2
          ·go_simp
           constructor
           ·rfl
           ·rfl
          refine hK.out _ _ ⟨(blk_cell (blk_alloc BK390.out _) 0).trans rfl, (blk_cell (blk_alloc BK390.out _) 1).trans rfl, (blk_cell (blk_alloc BK390.out _) 2).trans rfl, (blk_cell (blk_alloc BK390.out _) 3).trans rfl, (blk_cell (blk_alloc BK390.out _) 4).trans rfl, (blk_cell (blk_alloc BK390.out _) 5).trans rfl⟩ (fun hHeld => ?_)
          clear hK K
          refine norm_ (a' := ?_) ?_ ?_
          rotate_left
          ·show Act.put _ (some 49) _ = _
           simp only [Act.put, List.setIfInBounds_toArray, List.set_cons_zero, List.set_cons_succ, i64_w, i32_w]
           rfl
          refine one_ (i := 21) (N := some 50) #[true, true, true, true, true, true, true, true, true, true, true, true, true, true, true, true, true, true, true, true, true, true, false] rfl rfl (one_of HT_.out (by kernel_rfl)) (by decide) (fun K hK => ?_)
          refine Kd.N_append_step k54 (w0 := w) w.heap.size (by rfl) (.tmp 29) (.tmp 49) 52 54 (.agg #[(.int .i64 0), (.int .i64 0), (.string ⟨#[]⟩), (.slice none 0 0)]) 56 rfl Try.underlying52 info54 rfl (by decide) (by omega) u3 x3_1 (⟨t440, t441, t442, t443⟩ : S54) [.int .i64 t440, .int .i64 t441, .string t442, .slice Ao48 t443.length co48] (fun k_ => (w.heap.size ≤ k_) ∧ k_ ≠ gb366 ∧ k_ ≠ gb367 ∧ k_ ≠ gb390) (fun k_ => ((fun k_ => (w.heap.size ≤ k_) ∧ k_ ≠ gb366 ∧ k_ ≠ gb367 ∧ k_ ≠ gb390)) k_ ∧ some k_ ≠ (u3 : Value).ownBlock) rfl rfl ?aP (fun _ hk => hk) ?aF ?aO ?aB ?aS ?aL ?_
          (case aP => exact (k54_mkF _ _ (⟨t440, t441, t442, t443⟩ : S54) (Kd.N_reads' (Kd.N_mono (ok' := (fun k_ => ((fun k_ => (w.heap.size ≤ k_) ∧ k_ ≠ gb366 ∧ k_ ≠ gb367 ∧ k_ ≠ gb390)) k_ ∧ some k_ ≠ (u3 : Value).ownBlock)) (HO445.out) (fun k_ hk => ⟨⟨hk.1, ⟨hk.2.2.1, ⟨hk.2.2.2.1, hk.2.2.2.2⟩⟩⟩, hk.2.1⟩))).2.1 (Kd.N_F (Kd.N_mono (ok' := (fun k_ => ((fun k_ => (w.heap.size ≤ k_) ∧ k_ ≠ gb366 ∧ k_ ≠ gb367 ∧ k_ ≠ gb390)) k_ ∧ some k_ ≠ (u3 : Value).ownBlock)) (HO445.out) (fun k_ hk => ⟨⟨hk.1, ⟨hk.2.2.1, ⟨hk.2.2.2.1, hk.2.2.2.2⟩⟩⟩, hk.2.1⟩)))))
          (case aB => exact bb)
          (case aF => exact (fun k_ hk => ⟨(Nat.le_trans (below_size bb) hk), Kd.freshB (rb BK366.out) k_ hk, Kd.freshB (g := gb367) (o := .cells #[.int .i64 0, .int .i64 0, .string (⟨#[]⟩ : ByteArray), .slice none 0 0] 54 (0, 0)) (rb BK367.out) k_ hk, Kd.freshB (rb BK390.out) k_ hk⟩))
          (case aO => exact (kN (Kd.N_mono HO_3.out (fun _ hk => ⟨hk.1.1.1.1.1.1.1.1.1, ⟨hk.1.1.1.1.1.1.1.1.2.2.1, ⟨hk.1.1.1.1.1.1.1.1.2.2.2.1, hk.1.1.1.1.1.1.1.1.2.2.2.2⟩⟩⟩))))
          (case aS => exact (below_size bb))
          (case aL => have := LMc28.out; omega)
          intro v447 w47 ho hb hg hat
          rw [← Ny446.out] at ho
          have n0_ := Aside0.mk (Kd.N_afterv (ok := (fun k_ => (w.heap.size ≤ k_) ∧ some k_ ≠ (.slice Ao45 y437.length co45 : Value).ownBlock ∧ some k_ ≠ (.slice Ao48 t443.length co48 : Value).ownBlock ∧ k_ ≠ gb366 ∧ k_ ≠ gb367 ∧ k_ ≠ gb390)) (kN (Kd.N_mono HO_6.out (fun _ hk => ⟨⟨hk.1.1.1.1.1.1.1.1.1, ⟨hk.1.2, ⟨hk.2, ⟨hk.1.1.1.1.1.1.1.1.2.2.1, ⟨hk.1.1.1.1.1.1.1.1.2.2.2.1, hk.1.1.1.1.1.1.1.1.2.2.2.2⟩⟩⟩⟩⟩, hk.1.1.1.1.1.1.1.1.2.1⟩))) hg hat)
          have n1_ := Aside0.mk (blk_grown (rb BK366.out) hg (Kd.N_ne HO_3.out BK366.out (by decide)))
          have n2_ := Aside0.mk (blk_grown (g := gb367) (o := .cells #[.int .i64 0, .int .i64 0, .string (⟨#[]⟩ : ByteArray), .slice none 0 0] 54 (0, 0)) (rb BK367.out) hg (Kd.N_away HO_3.out (fun _ hk => hk.1.1.1.1.1.1.1.1.2.2.2.1)))
          have n3_ := Aside0.mk (blk_grown (rb BK390.out) hg (Kd.N_ne HO_3.out BK390.out (by decide)))
          have n4_ := Aside0.mk (Kd.N_afterv (ok := (fun k_ => (w.heap.size ≤ k_) ∧ some k_ ≠ (.slice Ao48 t443.length co48 : Value).ownBlock ∧ k_ ≠ gb366 ∧ k_ ≠ gb367 ∧ k_ ≠ gb390)) (kN (Kd.N_mono HO439.out (fun _ hk => ⟨⟨hk.1.1, ⟨hk.2, ⟨hk.1.2.2.1, ⟨hk.1.2.2.2.1, hk.1.2.2.2.2⟩⟩⟩⟩, hk.1.2.1⟩))) hg hat)
          have n5_ := Aside0.mk (hb)
          have n6_ := Aside0.mk (ho)
          clear HO_6
          clear BK366
          clear BK367
          clear BK390
          clear HO439
          clear HB
          clear HO_3
          clear HO445
          have HO_6 := n0_
          have BK366 := n1_
          have BK367 := n2_
          have BK390 := n3_
          have HO439 := n4_
          have HB := n5_
          have HO448 := n6_
          clear n0_ n1_ n2_ n3_ n4_ n5_ n6_
          clear ho hb hg hat
          refine hK.out _ _ ⟨(blk_cell BK390.out 0).trans rfl, (blk_cell BK390.out 1).trans rfl, (blk_cell BK390.out 2).trans rfl, (blk_cell BK390.out 3).trans rfl, (blk_cell BK390.out 4).trans rfl, (blk_cell BK390.out 5).trans rfl⟩ (fun hHeld => ?_)
          clear hK K
          refine norm_ (a' := ?_) ?_ ?_
          rotate_left
          ·show Act.put _ (some 50) _ = _
           simp only [Act.put, List.setIfInBounds_toArray, List.set_cons_zero, List.set_cons_succ, i64_w, i32_w]
           rfl
          refine pure_ (i := 22) (N := some 3) (v := ?_) (a' := ?_) #[true, true, true, true, true, true, true, true, true, true, true, true, true, true, true, true, true, true, true, true, true, true, true] rfl rfl (any_of HT_.out (by kernel_rfl)) (fun _ _ _ h => h) (Or.inl ⟨by rfl, ?_⟩) ?_ ?_
          rotate_left
          ·intro w'
           go_simp
           with_reducible rfl
          rotate_left
          ·simp only [Act.put, List.setIfInBounds_toArray, List.set_cons_zero, List.set_cons_succ, i64_w, i32_w]
           rfl
          refine done_ (done_of HT_.out (by kernel_rfl)) ?_
          try go_wp2
          go_roundg k2
          case measure => have := HK1.out; have := HK2.out; omega
          case rel => exact ⟨(y446), (wrap64 (x12_1 + 1)), (by first | rfl | (simp; done) | (simp [*]; done)), H', ⟨by have := HK1.out; have := HK2.out; omega⟩, ⟨kN (Kd.N_mono HO448.out (fun _ hk => ⟨hk.1, ⟨hk.2.1, hk.2.2.1⟩⟩))⟩, ⟨by (with_reducible repeat (first | refine blk_drewN ?_ _ | refine blk_drew ?_ | refine blk_alloc ?_ _)); exact BK366.out⟩, ⟨by (with_reducible repeat (first | refine blk_drewN ?_ _ | refine blk_drew ?_ | refine blk_alloc ?_ _)); exact BK367.out⟩, ⟨bb⟩⟩
         ·rw [if_neg c28] at H
          exact absurd H (by simp)
     ·rw [if_neg c8] at H
      exact absurd H (by simp)
    ·rw [if_neg c7] at H
     exact absurd H (by simp)
   ·rw [if_neg c6] at H
    have c6b0 : decide (x12_1 < (l0_1.length : Int)) = false := decide_eq_false c6
    clear c6
    replace H := Option.bind_eq_some_iff.mp H
    obtain ⟨⟨t368, t369, t370, t371⟩, A490, H⟩ := H
    replace H : ((pack_All.f x3_1).bind fun bt374 => ((pack_All.f (([(⟨t368, t369, t370, t371⟩ : S54), (⟨bt374.1, bt374.2.1, bt374.2.2.1, bt374.2.2.2⟩ : S54)] : List (S54)))).bind fun bt383 => (some (bt383.1, bt383.2.1, bt383.2.2.1, bt383.2.2.2)))) = some (r1, r2, r3, r4) := H
    have A49 := Aside0.mk A490
    clear A490
    replace H := Option.bind_eq_some_iff.mp H
    obtain ⟨⟨t374, t375, t376, t377⟩, A500, H⟩ := H
    replace H : ((pack_All.f (([(⟨t368, t369, t370, t371⟩ : S54), (⟨t374, t375, t376, t377⟩ : S54)] : List (S54)))).bind fun bt383 => (some (bt383.1, bt383.2.1, bt383.2.2.1, bt383.2.2.2))) = some (r1, r2, r3, r4) := H
    have A50 := Aside0.mk A500
    clear A500
    obtain ⟨y380, hy380⟩ : ∃ y_ : List (S54), y_ = (([(⟨t368, t369, t370, t371⟩ : S54), (⟨t374, t375, t376, t377⟩ : S54)] : List (S54))) := ⟨_, rfl⟩
    replace H : ((pack_All.f y380).bind fun bt383 => (some (bt383.1, bt383.2.1, bt383.2.2.1, bt383.2.2.2))) = some (r1, r2, r3, r4) := by first | (rw [hy380]; with_reducible exact H) | (have H2_ := (Option.bind_some _ _).symm.trans H; rw [hy380]; with_reducible exact H2_) | (have H2_ := (Option.bind_some _ _).symm.trans H; with_reducible exact H2_) | with_reducible exact H | (rw [hy380]; exact H) | exact H
    have Ny380 := Aside0.mk hy380
    clear hy380
    replace H := Option.bind_eq_some_iff.mp H
    obtain ⟨⟨t383, t384, t385, t386⟩, A510, H⟩ := H
    replace H : (some (t383, t384, t385, t386)) = some (r1, r2, r3, r4) := H
    have A51 := Aside0.mk A510
    clear A510
    simp only [Option.some.injEq, Prod.mk.injEq] at H
    obtain ⟨rfl, rfl, rfl, rfl⟩ := H
    have hnb52 := NB366_367.out
    have hnc52 := NB367_366.out
    have hcz53_0 : wr.cell? ⟨gb366, 0, none⟩ = some (.string a0_0) := (blk_cell BK366.out 0).trans rfl
    have hcz53_1 : wr.cell? ⟨gb366, 1, none⟩ = some (.slice A0_1 l0_1.length c0_1) := (blk_cell BK366.out 1).trans rfl
    have hfz53_0 := blk_frozen BK366.out 0
    have hfz53_1 := blk_frozen BK366.out 1
    go_wp2_with (first | ((with_reducible refine gate_callee (f := 64) rfl ?_); refine goesL_ (some 54) rfl rfl Try.func64 (by kernel_rfl) rfl #[.string a0_0] rfl ag ?_; (with_reducible refine (pack_Str.calls a0_0 t368 t369 t370 t371 _ A49.out).mono ?_); rintro e w54 ⟨v372, rfl, ho0, hb⟩; refine ⟨_, rfl, ?_⟩; have n0_ := Aside0.mk (Kd.N_elder' (kN HO_3.out) (by first | exact Kd.N_base ho0 | exact Kd.N_base (Kd.R_N ho0)) hb); have n1_ := Aside0.mk (Kd.N_lower (Kd.N_mono (ok' := fun k_ => (w.heap.size ≤ k_) ∧ some k_ ≠ (u3 : Value).ownBlock ∧ k_ ≠ gb366 ∧ k_ ≠ gb367) (Kd.R_N (Kd.R_bound ho0)) (fun k_ hk_ => ⟨(Nat.le_trans (below_size bb) hk_.2.1), (Kd.fresh' (Kd.N_lt (kN HO_3.out)) k_ hk_.2.1), (Kd.freshB (rb BK366.out) k_ hk_.2.1), (Kd.freshB (g := gb367) (o := .cells #[.int .i64 0, .int .i64 0, .string (⟨#[]⟩ : ByteArray), .slice none 0 0] 54 (0, 0)) (rb BK367.out) k_ hk_.2.1)⟩)) (below_size bb)); have n2_ := Aside0.mk (blk_below (rb BK366.out) hb); have n3_ := Aside0.mk (blk_below (g := gb367) (o := .cells #[.int .i64 0, .int .i64 0, .string (⟨#[]⟩ : ByteArray), .slice none 0 0] 54 (0, 0)) (rb BK367.out) hb); have n4_ := Aside0.mk (below_step bb hb); clear HO_3; clear BK366; clear BK367; clear HB; have HO_3 := n0_; have HO373 := n1_; have BK366 := n2_; have BK367 := n3_; have HB := n4_; clear n0_ n1_ n2_ n3_ n4_; (try clear hb); (try clear hb2); (try clear hk); (try clear hi); (try clear ho0); obtain ⟨Ao55, co55, eo55⟩ := Kd.N_slice HO_3.out; subst eo55) | ((with_reducible refine gate_callee (f := 40) rfl ?_); refine goesL_ (some 56) rfl rfl Try.func40 (by kernel_rfl) rfl #[.slice Ao55 x3_1.length co55] rfl ag ?_; (with_reducible refine (pack_All.calls (fun k_ => (((w.heap.size ≤ k_) ∧ (k_ ≠ gb366 ∧ k_ ≠ gb367)) ∧ some k_ ≠ (v372 : Value).ownBlock)) _ _ x3_1 t374 t375 t376 t377 _ ?side1 A50.out).mono ?_); (case side1 => exact Kd.N_V (HO_3.out)); rintro e w56 ⟨v378, rfl, ho0, hb⟩; refine ⟨_, rfl, ?_⟩; have n0_ := Aside0.mk (Kd.N_elder' (kN HO_3.out) (by first | exact Kd.N_base ho0 | exact Kd.N_base (Kd.R_N ho0)) hb); have n1_ := Aside0.mk (Kd.N_elder' (kN HO373.out) (by first | exact Kd.N_base ho0 | exact Kd.N_base (Kd.R_N ho0)) hb); have n2_ := Aside0.mk (Kd.N_lower (Kd.N_mono (ok' := fun k_ => (w.heap.size ≤ k_) ∧ some k_ ≠ (v372 : Value).ownBlock ∧ k_ ≠ gb366 ∧ k_ ≠ gb367) ho0 (fun k_ hk_ => ⟨Or.elim hk_ (fun hs_ => hs_.1.1) (fun hn_ => (Nat.le_trans (below_size bb) hn_)), Or.elim hk_ (fun hs_ => hs_.2) (fun hn_ => (Kd.fresh' (Kd.N_lt (kN HO373.out)) k_ hn_)), Or.elim hk_ (fun hs_ => hs_.1.2.1) (fun hn_ => (Kd.freshB (rb BK366.out) k_ hn_)), Or.elim hk_ (fun hs_ => hs_.1.2.2) (fun hn_ => (Kd.freshB (g := gb367) (o := .cells #[.int .i64 0, .int .i64 0, .string (⟨#[]⟩ : ByteArray), .slice none 0 0] 54 (0, 0)) (rb BK367.out) k_ hn_))⟩)) (below_size bb)); have n3_ := Aside0.mk (blk_below (rb BK366.out) hb); have n4_ := Aside0.mk (blk_below (g := gb367) (o := .cells #[.int .i64 0, .int .i64 0, .string (⟨#[]⟩ : ByteArray), .slice none 0 0] 54 (0, 0)) (rb BK367.out) hb); have n5_ := Aside0.mk (below_step bb hb); clear HO_3; clear HO373; clear BK366; clear BK367; clear HB; have HO_3 := n0_; have HO373 := n1_; have HO379 := n2_; have BK366 := n3_; have BK367 := n4_; have HB := n5_; clear n0_ n1_ n2_ n3_ n4_ n5_; (try clear hb); (try clear hb2); (try clear hk); (try clear hi); (try clear ho0); obtain ⟨Ao57, co57, eo57⟩ := Kd.N_slice HO373.out; subst eo57; obtain ⟨Ao58, co58, eo58⟩ := Kd.N_slice HO379.out; subst eo58) | ((with_reducible refine gate_dst (N := 57) rfl ?_); refine Kd.N_lit k54 _ 54 ?hg (N' := 57) ?hd (xs := ([(⟨t368, t369, t370, t371⟩ : S54), (⟨t374, t375, t376, t377⟩ : S54)] : List (S54))) (inner := [.int .i64 t368, .int .i64 t369, .string t370, .slice Ao57 t371.length co57, .int .i64 t374, .int .i64 t375, .string t376, .slice Ao58 t377.length co58]) (ok := (fun k_ => (w.heap.size ≤ k_) ∧ k_ ≠ gb366 ∧ k_ ≠ gb367)) (okp := (fun k_ => (w.heap.size ≤ k_) ∧ k_ ≠ gb366 ∧ k_ ≠ gb367)) ?hr ?hp (fun _ hk => hk) ((show ∀ k_, w56.heap.size ≤ k_ → (fun k_ => (w.heap.size ≤ k_) ∧ k_ ≠ gb366 ∧ k_ ≠ gb367) k_ from fun k_ hk => ⟨(Nat.le_trans (below_size bb) hk), Kd.freshB (rb BK366.out) k_ hk, Kd.freshB (g := gb367) (o := .cells #[.int .i64 0, .int .i64 0, .string (⟨#[]⟩ : ByteArray), .slice none 0 0] 54 (0, 0)) (rb BK367.out) k_ hk⟩) _ (Nat.le_refl _)) (Below.refl _ _) (Nat.le_refl _) (by simp) ?_; (case hd => rfl); (case hg => rfl); (case hr => first | (go_simp; done) | (go_simp; rfl)); (case hp => exact (Reps.c4 (show Kd.FK k54 _ _ (⟨t368, t369, t370, t371⟩ : S54) [.int .i64 t368, .int .i64 t369, .string t370, .slice Ao57 t371.length co57] from (k54_mkF _ _ (⟨t368, t369, t370, t371⟩ : S54) (Kd.N_reads' (Kd.N_mono (ok' := (fun k_ => (w.heap.size ≤ k_) ∧ k_ ≠ gb366 ∧ k_ ≠ gb367)) (HO373.out) (fun k_ hk => ⟨hk.1.1, ⟨hk.1.2.2.1, hk.1.2.2.2⟩⟩))).2.1 (Kd.N_F (Kd.N_mono (ok' := (fun k_ => (w.heap.size ≤ k_) ∧ k_ ≠ gb366 ∧ k_ ≠ gb367)) (HO373.out) (fun k_ hk => ⟨hk.1.1, ⟨hk.1.2.2.1, hk.1.2.2.2⟩⟩))))) (Reps.c4 (show Kd.FK k54 _ _ (⟨t374, t375, t376, t377⟩ : S54) [.int .i64 t374, .int .i64 t375, .string t376, .slice Ao58 t377.length co58] from (k54_mkF _ _ (⟨t374, t375, t376, t377⟩ : S54) (Kd.N_reads' (Kd.N_mono (ok' := (fun k_ => (w.heap.size ≤ k_) ∧ k_ ≠ gb366 ∧ k_ ≠ gb367)) (HO379.out) (fun k_ hk => ⟨hk.1, ⟨hk.2.2.1, hk.2.2.2⟩⟩))).2.1 (Kd.N_F (Kd.N_mono (ok' := (fun k_ => (w.heap.size ≤ k_) ∧ k_ ≠ gb366 ∧ k_ ≠ gb367)) (HO379.out) (fun k_ hk => ⟨hk.1, ⟨hk.2.2.1, hk.2.2.2⟩⟩))))) (Reps.none _ _)))); intro v381 w59 ho60 hb hg_ hnew_; clear hg_ hnew_; (first | rw [← Ny380.out] at ho60 | (simp only [Int.reduceToNat] at ho60; rw [← Ny380.out] at ho60)); have n0_ := Aside0.mk (Kd.N_elder' (kN HO_3.out) (by first | exact Kd.N_base ho60 | exact Kd.N_base (Kd.R_N ho60)) hb); have n1_ := Aside0.mk (Kd.N_lower ho60 (below_size bb)); have n2_ := Aside0.mk (blk_below (rb BK366.out) hb); have n3_ := Aside0.mk (blk_below (g := gb367) (o := .cells #[.int .i64 0, .int .i64 0, .string (⟨#[]⟩ : ByteArray), .slice none 0 0] 54 (0, 0)) (rb BK367.out) hb); have n4_ := Aside0.mk (below_step bb hb); clear HO_3; clear BK366; clear BK367; clear HB; clear HO373; clear HO379; have HO_3 := n0_; have HO382 := n1_; have BK366 := n2_; have BK367 := n3_; have HB := n4_; clear n0_ n1_ n2_ n3_ n4_; clear hb ho60; obtain ⟨Ao61, co61, eo61⟩ := Kd.N_slice HO382.out; subst eo61) | ((with_reducible refine gate_callee (f := 40) rfl ?_); refine goesL_ (some 58) rfl rfl Try.func40 (by kernel_rfl) rfl #[.slice Ao61 y380.length co61] rfl ag ?_; (with_reducible refine (pack_All.calls (fun k_ => ((w.heap.size ≤ k_) ∧ (k_ ≠ gb366 ∧ k_ ≠ gb367))) _ _ y380 t383 t384 t385 t386 _ ?side1 A51.out).mono ?_); (case side1 => exact Kd.N_V (HO382.out)); rintro e w62 ⟨v387, rfl, ho0, hb⟩; refine ⟨_, rfl, ?_⟩; have n0_ := Aside0.mk (Kd.N_elder' (kN HO_3.out) (by first | exact Kd.N_base ho0 | exact Kd.N_base (Kd.R_N ho0)) hb); have n1_ := Aside0.mk (Kd.N_elder' (kN HO382.out) (by first | exact Kd.N_base ho0 | exact Kd.N_base (Kd.R_N ho0)) hb); have n2_ := Aside0.mk (Kd.N_lower (Kd.N_mono (ok' := fun k_ => (w.heap.size ≤ k_) ∧ k_ ≠ gb366 ∧ k_ ≠ gb367) ho0 (fun k_ hk_ => ⟨Or.elim hk_ (fun hs_ => hs_.1) (fun hn_ => (Nat.le_trans (below_size bb) hn_)), Or.elim hk_ (fun hs_ => hs_.2.1) (fun hn_ => (Kd.freshB (rb BK366.out) k_ hn_)), Or.elim hk_ (fun hs_ => hs_.2.2) (fun hn_ => (Kd.freshB (g := gb367) (o := .cells #[.int .i64 0, .int .i64 0, .string (⟨#[]⟩ : ByteArray), .slice none 0 0] 54 (0, 0)) (rb BK367.out) k_ hn_))⟩)) (below_size bb)); have n3_ := Aside0.mk (blk_below (rb BK366.out) hb); have n4_ := Aside0.mk (blk_below (g := gb367) (o := .cells #[.int .i64 0, .int .i64 0, .string (⟨#[]⟩ : ByteArray), .slice none 0 0] 54 (0, 0)) (rb BK367.out) hb); have n5_ := Aside0.mk (below_step bb hb); clear HO_3; clear HO382; clear BK366; clear BK367; clear HB; have HO_3 := n0_; have HO382 := n1_; have HO388 := n2_; have BK366 := n3_; have BK367 := n4_; have HB := n5_; clear n0_ n1_ n2_ n3_ n4_ n5_; (try clear hb); (try clear hb2); (try clear hk); (try clear hi); (try clear ho0); have hcz63_0 : w62.cell? ⟨gb367, 0, none⟩ = some (.int .i64 0) := (blk_cell BK367.out 0).trans rfl; have hcz63_1 : w62.cell? ⟨gb367, 1, none⟩ = some (.int .i64 0) := (blk_cell BK367.out 1).trans rfl; have hcz63_2 : w62.cell? ⟨gb367, 2, none⟩ = some (.string (⟨#[]⟩ : ByteArray)) := (blk_cell BK367.out 2).trans rfl; have hcz63_3 : w62.cell? ⟨gb367, 3, none⟩ = some (.slice none 0 0) := (blk_cell BK367.out 3).trans rfl; have hfz63_0 := blk_frozen BK367.out 0; have hfz63_1 := blk_frozen BK367.out 1; have hfz63_2 := blk_frozen BK367.out 2; have hfz63_3 := blk_frozen BK367.out 3; obtain ⟨Ao64, co64, eo64⟩ := Kd.N_slice HO388.out; subst eo64))
    refine bodyPost_ret (results_cell_row rfl _ _ gb367 54 #[.int .i64 t383, .int .i64 t384, .string t385, .slice Ao64 t386.length co64] (0, 0) _ rfl (rb (blk_put (cs := #[.int .i64 t383, .int .i64 t384, .string t385, .slice none 0 0]) (rb (blk_put (cs := #[.int .i64 t383, .int .i64 t384, .string (⟨#[]⟩ : ByteArray), .slice none 0 0]) (rb (blk_put (cs := #[.int .i64 t383, .int .i64 0, .string (⟨#[]⟩ : ByteArray), .slice none 0 0]) (rb (blk_put (cs := #[.int .i64 0, .int .i64 0, .string (⟨#[]⟩ : ByteArray), .slice none 0 0]) (rb BK367.out) 0 _ rfl)) 1 _ rfl)) 2 _ rfl)) 3 _ rfl)) Try.underlying54 rfl (by kernel_rfl)) rfl ?_
    exact ⟨_, by first | rfl | (simp [errW_none, errW_some] <;> rfl) | (simp [*, errW_none, errW_some] <;> rfl), kN (Kd.N_mono (Kd.N_far (p := ⟨gb367, 3, none⟩) (Kd.N_far (p := ⟨gb367, 2, none⟩) (Kd.N_far (p := ⟨gb367, 1, none⟩) (Kd.N_far (p := ⟨gb367, 0, none⟩) (Kd.N_mono HO388.out (fun k_ hk => (⟨hk, hk.2.2⟩ : _ ∧ k_ ≠ gb367))) (fun _ hk => hk.2) (.int .i64 t383)) (fun _ hk => hk.2) (.int .i64 t384)) (fun _ hk => hk.2) (.string t385)) (fun _ hk => hk.2) (.slice Ao64 t386.length co64)) (fun _ hk => hk.1.1)), bb⟩

end Go.Proofs.Ytjicfkmpgogppaa.PG
