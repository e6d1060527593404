-- printed by a program of this session out of the translation; see NOTES.md
import Derived.Test.YtjicfkmpgogppaaH0
namespace Go.Proofs.Ytjicfkmpgogppaa.PA
open Go.RowKit Go.Proofs.YtjicfkmpgogppaaW.PrintWords Go.Proofs.YtjicfkmpgogppaaW.PrintLast Go.Proofs.YtjicfkmpgogppaaW.PrintMore Go.Proofs.YtjicfkmpgogppaaRb
attribute [local go_sem] max2_int min2_int max_two min_two max_three min_three max_four min_four   -- for this text's walks alone
set_option linter.unusedVariables false
set_option linter.unusedSimpArgs false

/-! ### graph_Value: function 25 -/
mutual
def graph_Value.l0 : Nat → List (S54) → List (S48) → Int → Int → ByteArray → List (S48) → Option (Int × Int × ByteArray × (List (S54)))
 | 0, _, _, _, _, _, _ => none
 | k + 1, x3, x10, x11, x12, x282000, x282001 => if x12 < x11 then (if 0 ≤ x12 then (if x12 < (x10.length : Int) then (graph_Value.l1 k x3 ([] : List (S54)) x10 x11 x12 ((rd_T48 x10 x12).f1) (((rd_T48 x10 x12).f1).length : Int) 0 x282000 x282001 ((rd_T48 x10 x12).f0) ((rd_T48 x10 x12).f1) ((rd_T48 x10 x12).f2) ((rd_T48 x10 x12).f3) ((rd_T48 x10 x12).f4) ((rd_T48 x10 x12).f5)) else (none)) else (none)) else ((pack_Str.f x282000).bind fun bt283 => ((pack_All.f x3).bind fun bt289 => ((pack_All.f (([(⟨bt283.1, bt283.2.1, bt283.2.2.1, bt283.2.2.2⟩ : S54), (⟨bt289.1, bt289.2.1, bt289.2.2.1, bt289.2.2.2⟩ : S54)] : List (S54)))).bind fun bt298 => (some (bt298.1, bt298.2.1, bt298.2.2.1, bt298.2.2.2)))))
def graph_Value.l1 : Nat → List (S54) → List (S54) → List (S48) → Int → Int → List ByteArray → Int → Int → ByteArray → List (S48) → ByteArray → List ByteArray → Int → Int → Int → ByteArray → Option (Int × Int × ByteArray × (List (S54)))
 | 0, _, _, _, _, _, _, _, _, _, _, _, _, _, _, _, _ => none
 | k + 1, x3, x6, x10, x11, x12, x17, x18, x19, x282000, x282001, x306000, x306001, x306002, x306003, x306004, x306005 => if x19 < x18 then (if 0 ≤ x19 then (if x19 < (x17.length : Int) then ((pack_Str.f (rdOf ByteArray.empty x17 x19)).bind fun bt307 => (if x6.length < 2513169434916 then (graph_Value.l1 k x3 (x6 ++ [(⟨bt307.1, bt307.2.1, bt307.2.2.1, bt307.2.2.2⟩ : S54)]) x10 x11 x12 x17 x18 (wrap64 (x19 + 1)) x282000 x282001 x306000 x306001 x306002 x306003 x306004 x306005) else (none))) else (none)) else (none)) else ((pack_Str.f x306000).bind fun bt316 => ((pack_All.f x6).bind fun bt322 => ((pack_Num.f x306002).bind fun bt328 => ((pack_Num.f x306003).bind fun bt334 => ((pack_Num.f x306004).bind fun bt340 => ((pack_Str.f x306005).bind fun bt346 => ((pack_All.f (([(⟨bt316.1, bt316.2.1, bt316.2.2.1, bt316.2.2.2⟩ : S54), (⟨bt322.1, bt322.2.1, bt322.2.2.1, bt322.2.2.2⟩ : S54), (⟨bt328.1, bt328.2.1, bt328.2.2.1, bt328.2.2.2⟩ : S54), (⟨bt334.1, bt334.2.1, bt334.2.2.1, bt334.2.2.2⟩ : S54), (⟨bt340.1, bt340.2.1, bt340.2.2.1, bt340.2.2.2⟩ : S54), (⟨bt346.1, bt346.2.1, bt346.2.2.1, bt346.2.2.2⟩ : S54)] : List (S54)))).bind fun bt355 => (if x3.length < 2513169434916 then (graph_Value.l0 k (x3 ++ [(⟨bt355.1, bt355.2.1, bt355.2.2.1, bt355.2.2.2⟩ : S54)]) x10 x11 (wrap64 (x12 + 1)) x282000 x282001) else (none)))))))))
end
def graph_Value.f (k : Nat) (a0_0 : ByteArray) (l0_1 : List (S48)) : Option (Int × Int × ByteArray × (List (S54))) := graph_Value.l0 k ([] : List (S54)) l0_1 (l0_1.length : Int) 0 a0_0 l0_1
theorem graph_Value.mono_l : ∀ k, (∀ y0 y1 y2 y3 y4 y5, LeO (graph_Value.l0 k y0 y1 y2 y3 y4 y5) (graph_Value.l0 (k + 1) y0 y1 y2 y3 y4 y5)) ∧ (∀ y0 y1 y2 y3 y4 y5 y6 y7 y8 y9 y10 y11 y12 y13 y14 y15, LeO (graph_Value.l1 k y0 y1 y2 y3 y4 y5 y6 y7 y8 y9 y10 y11 y12 y13 y14 y15) (graph_Value.l1 (k + 1) y0 y1 y2 y3 y4 y5 y6 y7 y8 y9 y10 y11 y12 y13 y14 y15))
 | 0 => ⟨fun _ _ _ _ _ _ r h => by simp [graph_Value.l0] at h, fun _ _ _ _ _ _ _ _ _ _ _ _ _ _ _ _ r h => by simp [graph_Value.l1] at h⟩
 | k + 1 => by
  obtain ⟨ih0, ih1⟩ := graph_Value.mono_l k
  refine ⟨?_, ?_⟩
  ·intro y0 y1 y2 y3 y4 y5
   unfold graph_Value.l0
   repeat' first
   | (with_reducible exact ih0 _ _ _ _ _ _)
   | (with_reducible exact ih1 _ _ _ _ _ _ _ _ _ _ _ _ _ _ _ _)
   | (with_reducible exact LeO.refl _)
   | (with_reducible exact LeO.none _)
   | (with_reducible refine LeO.ite ?_ ?_)
   | (with_reducible refine LeO.bind ?_ (fun _ => ?_))
   | exact ih0 _ _ _ _ _ _
   | exact ih1 _ _ _ _ _ _ _ _ _ _ _ _ _ _ _ _
   | exact LeO.none _
   | refine LeO.ite ?_ ?_
   | refine LeO.bind ?_ (fun _ => ?_)
  ·intro y0 y1 y2 y3 y4 y5 y6 y7 y8 y9 y10 y11 y12 y13 y14 y15
   unfold graph_Value.l1
   repeat' first
   | (with_reducible exact ih0 _ _ _ _ _ _)
   | (with_reducible exact ih1 _ _ _ _ _ _ _ _ _ _ _ _ _ _ _ _)
   | (with_reducible exact LeO.refl _)
   | (with_reducible exact LeO.none _)
   | (with_reducible refine LeO.ite ?_ ?_)
   | (with_reducible refine LeO.bind ?_ (fun _ => ?_))
   | exact ih0 _ _ _ _ _ _
   | exact ih1 _ _ _ _ _ _ _ _ _ _ _ _ _ _ _ _
   | exact LeO.none _
   | refine LeO.ite ?_ ?_
   | refine LeO.bind ?_ (fun _ => ?_)
theorem graph_Value.mono : ∀ a0 a1 k, LeO (graph_Value.f k a0 a1) (graph_Value.f (k + 1) a0 a1) := by
 intro a0 a1 k
 obtain ⟨ih0, ih1⟩ := graph_Value.mono_l k
 unfold graph_Value.f
 repeat' first
   | (with_reducible exact ih0 _ _ _ _ _ _)
   | (with_reducible exact ih1 _ _ _ _ _ _ _ _ _ _ _ _ _ _ _ _)
   | (with_reducible exact LeO.refl _)
   | (with_reducible exact LeO.none _)
   | (with_reducible refine LeO.ite ?_ ?_)
   | (with_reducible refine LeO.bind ?_ (fun _ => ?_))
   | exact ih0 _ _ _ _ _ _
   | exact ih1 _ _ _ _ _ _ _ _ _ _ _ _ _ _ _ _
   | exact LeO.none _
   | refine LeO.ite ?_ ?_
   | refine LeO.bind ?_ (fun _ => ?_)
def graph_Value.T11 : Bool × List (List Nat × List Nat) := (true, [([], []), ([], []), ([1], [1]), ([2], [2]), ([], []), ([4, 3], [4]), ([], []), ([6], [6]), ([7, 5], [7]), ([], []), ([9], [9]), ([10, 8], [10]), ([], []), ([12], [12]), ([13, 11], [13]), ([], []), ([15], [15]), ([16, 14], [16]), ([3, 5, 8, 11, 14, 17], [3, 5, 8, 11, 14, 17]), ([18, 17], [18]), ([19], [19]), ([0, 20, 19], [0, 20]), ([21, 21, 0, 1, 2, 3, 4, 5, 6, 7, 8, 9, 10, 11, 12, 13, 14, 15, 16, 17, 18, 19, 20, 21], [0, 21])])
def graph_Value.B11 : List Nat := [0, 0, 2, 6, 0, 30, 0, 64, 254, 0, 512, 2046, 0, 4096, 16382, 0, 32768, 131070, 262142, 524286, 1048574, 2097151, 4194303]
theorem graph_Value.tab11 : rtab .any (opsOf Try.f25 11) = graph_Value.T11 := by kernel_rfl
theorem graph_Value.bits11 : waitsOk graph_Value.T11.2 graph_Value.B11 = true := by kernel_rfl
set_option maxHeartbeats 8000000 in
set_option maxRecDepth 100000 in
theorem graph_Value.calls (k : Nat) (a0_0 : ByteArray) (A0_1 : Option Addr) (c0_1 : Nat) (l0_1 : List (S48)) (r1 : Int) (r2 : Int) (r3 : ByteArray) (r4 : List (S54)) (w : World) (hr0_1 : Kd.C k48 w A0_1 l0_1.length l0_1) (hc0_1 : l0_1.length ≤ c0_1) (h : graph_Value.f k a0_0 l0_1 = some (r1, r2, r3, r4)) :
  Calls Try.prog 25 #[.agg #[.string a0_0, .slice A0_1 l0_1.length c0_1]] w fun e w' => ∃ v3_ : Value, e = .returned (.agg #[.int .i64 r1, .int .i64 r2, .string r3, v3_]) ∧ Kd.N k54 54 w' w.heap.size (fun k_ => (w.heap.size ≤ k_)) v3_ r4 ∧ Below w.heap.size w w' := by
 have hu27 := Try.underlying27
 have hu54 := Try.underlying54
 have hu48 := Try.underlying48
 have HR0_1 := Aside0.mk hr0_1
 have HC0_1 := Aside0.mk hc0_1
 clear hr0_1 hc0_1
 have HB := Aside0.mk (Below.refl w.heap.size w)
 have H : (graph_Value.l0 k ([] : List (S54)) l0_1 (l0_1.length : Int) 0 a0_0 l0_1) = some (r1, r2, r3, r4) := h
 clear h
 have H' := Aside0.mk H
 clear H
 go_enter Try.func25, Try.ntmps25
 go_wp2_with (first | ((with_reducible refine gate_dst (N := 1) rfl ?_); refine box_event ?hg (N := 1) ?hd (cs := #[.string a0_0, .slice A0_1 l0_1.length c0_1]) (t := 27) ?hr ?_; (case hd => rfl); (case hg => rfl); (case hr => first | (go_simp; done) | (go_simp; rfl)); intro gb281 hg w2 hbox hb; have n0_ := Aside0.mk (below_step bb hb); have n1_ := Aside0.mk (hbox); have n2_ := Aside0.mk ((by rw [hg]; exact (below_size bb) : w.heap.size ≤ gb281)); have n3_ := Aside0.mk ((by rw [hg]; exact (below_size bb) : w.heap.size ≤ gb281)); clear HB; have HB := n0_; have BK281 := n1_; have GW281 := n2_; have GE281 := n3_; clear n0_ n1_ n2_ n3_; clear hb hbox hg) | ((with_reducible refine gate_dst (N := 2) rfl ?_); refine box_event ?hg (N := 2) ?hd (cs := #[.int .i64 0, .int .i64 0, .string (⟨#[]⟩ : ByteArray), .slice none 0 0]) (t := 54) ?hr ?_; (case hd => rfl); (case hg => rfl); (case hr => first | (go_simp; done) | (go_simp; rfl)); intro gb282 hg w3 hbox hb; have n0_ := Aside0.mk (blk_below (rb BK281.out) hb); have n1_ := Aside0.mk (below_step bb hb); have n2_ := Aside0.mk (hbox); have n3_ := Aside0.mk ((by rw [hg]; exact (below_size bb) : w.heap.size ≤ gb282)); have n4_ := Aside0.mk ((by rw [hg]; exact (below_size bb) : w.heap.size ≤ gb282)); have n5_ := Aside0.mk ((by rw [hg]; exact Nat.ne_of_lt (blk_lt (rb BK281.out)) : gb281 ≠ gb282)); have n6_ := Aside0.mk ((by rw [hg]; exact Nat.ne_of_gt (blk_lt (rb BK281.out)) : gb282 ≠ gb281)); clear BK281; clear HB; have BK281 := n0_; have HB := n1_; have BK282 := n2_; have GW282 := n3_; have GE282 := n4_; have NB281_282 := n5_; have NB282_281 := n6_; clear n0_ n1_ n2_ n3_ n4_ n5_ n6_; clear hb hbox hg; have hnb4 := NB281_282.out; have hnc4 := NB282_281.out; have hcz5_0 : w3.cell? ⟨gb281, 0, none⟩ = some (.string a0_0) := (blk_cell BK281.out 0).trans rfl; have hcz5_1 : w3.cell? ⟨gb281, 1, none⟩ = some (.slice A0_1 l0_1.length c0_1) := (blk_cell BK281.out 1).trans rfl; have hfz5_0 := blk_frozen BK281.out 0; have hfz5_1 := blk_frozen BK281.out 1))
 go_loopg [3, 12] k (fun kq v3 v12 w' => ∃ (x3_1 : List (S54)) (x12_1 : Int), v12 = .int .i64 x12_1 ∧ Aside0 (graph_Value.l0 kq x3_1 l0_1 (l0_1.length : Int) x12_1 a0_0 l0_1 = some (r1, r2, r3, r4)) ∧ Aside0 (kq ≤ k) ∧ Aside0 (Kd.N k54 54 w' w.heap.size (fun k_ => (w.heap.size ≤ k_) ∧ k_ ≠ gb281 ∧ k_ ≠ gb282) v3 x3_1) ∧ Aside0 (w'.heap[gb281]? = some (.cells #[.string a0_0, (.slice A0_1 l0_1.length c0_1)] 27 (0, 0))) ∧ Aside0 (w'.heap[gb282]? = some (.cells #[.int .i64 0, .int .i64 0, .string (⟨#[]⟩ : ByteArray), (.slice none 0 0)] 54 (0, 0))) ∧ Aside0 (Below w.heap.size w w'))
 case atStart => exact ⟨(([] : List (S54))), (0), (by first | rfl | (simp; done) | (simp [*]; done)), H', ⟨Nat.le_refl _⟩, ⟨kn⟩, ⟨by (with_reducible repeat (first | refine blk_drewN ?_ _ | refine blk_drew ?_ | refine blk_alloc ?_ _)); exact BK281.out⟩, ⟨by (with_reducible repeat (first | refine blk_drewN ?_ _ | refine blk_drew ?_ | refine blk_alloc ?_ _)); exact BK282.out⟩, ⟨bb⟩⟩
 case round =>
  clear H'
  try clear c2
  try clear p2
  try clear c4
  try clear hcz5_0
  try clear hcz5_1
  try clear hfz5_0
  try clear hfz5_1
  obtain ⟨x3_1, x12_1, rfl, HA, HK1, HO_3, BK281, BK282, HB⟩ := hrel
  cases gk with
  | zero => exact absurd HA.out (by simp [graph_Value.l0])
  | succ k1 =>
   have H := HA.out
   clear HA
   simp only [graph_Value.l0] at H
   by_cases c6 : x12_1 < (l0_1.length : Int)
   ·rw [if_pos c6] at H
    have c6b0 : decide (x12_1 < (l0_1.length : Int)) = true := decide_eq_true c6
    clear c6
    by_cases c7 : 0 ≤ x12_1
    ·rw [if_pos c7] at H
     have c7b0 : decide (0 ≤ x12_1) = true := decide_eq_true c7
     clear c7
     by_cases c8 : x12_1 < (l0_1.length : Int)
     ·rw [if_pos c8] at H
      have c8b0 : decide (x12_1 < (l0_1.length : Int)) = true := decide_eq_true c8
      clear c8
      have H' := Aside0.mk H
      clear H
      have p304 : 0 ≤ (x12_1 : Int) := of_decide_eq_true (by first | (with_reducible assumption) | assumption)
      have q304 : x12_1 < (l0_1.length : Int) := of_decide_eq_true (by first | (with_reducible assumption) | assumption)
      obtain ⟨ad304, A304_1, c304_1, e304, hx304_0, hx304_1, hx304_2, hx304_3, hx304_4, hx304_5, hl304_1, hi304_1⟩ := at_T48 HR0_1.out x12_1 p304 q304
      cases e304
      replace hx304_0 := (HB.out.cell (World.block_lt_of_cell? w _ hx304_0)).trans hx304_0
      replace hx304_1 := (HB.out.cell (World.block_lt_of_cell? w _ hx304_1)).trans hx304_1
      replace hx304_2 := (HB.out.cell (World.block_lt_of_cell? w _ hx304_2)).trans hx304_2
      replace hx304_3 := (HB.out.cell (World.block_lt_of_cell? w _ hx304_3)).trans hx304_3
      replace hx304_4 := (HB.out.cell (World.block_lt_of_cell? w _ hx304_4)).trans hx304_4
      replace hx304_5 := (HB.out.cell (World.block_lt_of_cell? w _ hx304_5)).trans hx304_5
      have HR304_1 := Aside0.mk hi304_1
      have HC304_1 := Aside0.mk hl304_1
      clear hi304_1 hl304_1
      replace p304 := eq_true p304
      replace q304 := eq_true q304
      go_wp2_with (first | ((with_reducible refine gate_dst (N := 5) rfl ?_); refine box_event ?hg (N := 5) ?hd (cs := #[.string (⟨#[]⟩ : ByteArray), .slice none 0 0, .int .i64 0, .int .i64 0, .int .i64 0, .string (⟨#[]⟩ : ByteArray)]) (t := 48) ?hr ?_; (case hd => rfl); (case hg => rfl); (case hr => first | (go_simp; done) | (go_simp; rfl)); intro gb305 hg w9 hbox hb; have n0_ := Aside0.mk (Kd.N_below (Kd.N_elderB (kN HO_3.out) gb305 (Nat.le_of_eq hg.symm)) hb); have n1_ := Aside0.mk (blk_below (rb BK281.out) hb); have n2_ := Aside0.mk (blk_below (g := gb282) (o := .cells #[.int .i64 0, .int .i64 0, .string (⟨#[]⟩ : ByteArray), .slice none 0 0] 54 (0, 0)) (rb BK282.out) hb); have n3_ := Aside0.mk (below_step bb hb); have n4_ := Aside0.mk (hbox); have n5_ := Aside0.mk ((by rw [hg]; exact (below_size bb) : w.heap.size ≤ gb305)); have n6_ := Aside0.mk ((by rw [hg]; exact (below_size bb) : w.heap.size ≤ gb305)); have n7_ := Aside0.mk ((by rw [hg]; exact Nat.ne_of_lt (blk_lt (rb BK281.out)) : gb281 ≠ gb305)); have n8_ := Aside0.mk ((by rw [hg]; exact Nat.ne_of_gt (blk_lt (rb BK281.out)) : gb305 ≠ gb281)); have n9_ := Aside0.mk ((by rw [hg]; exact Nat.ne_of_lt (blk_lt (g := gb282) (o := .cells #[.int .i64 0, .int .i64 0, .string (⟨#[]⟩ : ByteArray), .slice none 0 0] 54 (0, 0)) (rb BK282.out)) : gb282 ≠ gb305)); have n10_ := Aside0.mk ((by rw [hg]; exact Nat.ne_of_gt (blk_lt (g := gb282) (o := .cells #[.int .i64 0, .int .i64 0, .string (⟨#[]⟩ : ByteArray), .slice none 0 0] 54 (0, 0)) (rb BK282.out)) : gb305 ≠ gb282)); clear HO_3; clear BK281; clear BK282; clear HB; have HO_3 := n0_; have BK281 := n1_; have BK282 := n2_; have HB := n3_; have BK305 := n4_; have GW305 := n5_; have GE305 := n6_; have NB281_305 := n7_; have NB305_281 := n8_; have NB282_305 := n9_; have NB305_282 := n10_; clear n0_ n1_ n2_ n3_ n4_ n5_ n6_ n7_ n8_ n9_ n10_; clear hb hbox hg; have hnb10 := NB305_281.out; have hnc10 := NB281_305.out; have hnb11 := NB305_282.out; have hnc11 := NB282_305.out; have hcz12_0 : w9.cell? ⟨gb305, 0, none⟩ = some (.string (⟨#[]⟩ : ByteArray)) := (blk_cell BK305.out 0).trans rfl; have hcz12_1 : w9.cell? ⟨gb305, 1, none⟩ = some (.slice none 0 0) := (blk_cell BK305.out 1).trans rfl; have hcz12_2 : w9.cell? ⟨gb305, 2, none⟩ = some (.int .i64 0) := (blk_cell BK305.out 2).trans rfl; have hcz12_3 : w9.cell? ⟨gb305, 3, none⟩ = some (.int .i64 0) := (blk_cell BK305.out 3).trans rfl; have hcz12_4 : w9.cell? ⟨gb305, 4, none⟩ = some (.int .i64 0) := (blk_cell BK305.out 4).trans rfl; have hcz12_5 : w9.cell? ⟨gb305, 5, none⟩ = some (.string (⟨#[]⟩ : ByteArray)) := (blk_cell BK305.out 5).trans rfl; have hfz12_0 := blk_frozen BK305.out 0; have hfz12_1 := blk_frozen BK305.out 1; have hfz12_2 := blk_frozen BK305.out 2; have hfz12_3 := blk_frozen BK305.out 3; have hfz12_4 := blk_frozen BK305.out 4; have hfz12_5 := blk_frozen BK305.out 5))
      go_loopg [6, 19] k1 (fun kq v6 v19 w' => ∃ (x6_2 : List (S54)) (x19_2 : Int), v19 = .int .i64 x19_2 ∧ Aside0 (graph_Value.l1 kq x3_1 x6_2 l0_1 (l0_1.length : Int) x12_1 ((rd_T48 l0_1 x12_1).f1) (((rd_T48 l0_1 x12_1).f1).length : Int) x19_2 a0_0 l0_1 ((rd_T48 l0_1 x12_1).f0) ((rd_T48 l0_1 x12_1).f1) ((rd_T48 l0_1 x12_1).f2) ((rd_T48 l0_1 x12_1).f3) ((rd_T48 l0_1 x12_1).f4) ((rd_T48 l0_1 x12_1).f5) = some (r1, r2, r3, r4)) ∧ Aside0 (kq ≤ k1) ∧ Aside0 (Kd.N k54 54 w' w.heap.size (fun k_ => (w.heap.size ≤ k_) ∧ some k_ ≠ (v6 : Value).ownBlock ∧ k_ ≠ gb281 ∧ k_ ≠ gb282 ∧ k_ ≠ gb305) u3 x3_1) ∧ Aside0 (Kd.N k54 54 w' w.heap.size (fun k_ => (w.heap.size ≤ k_) ∧ some k_ ≠ (u3 : Value).ownBlock ∧ k_ ≠ gb281 ∧ k_ ≠ gb282 ∧ k_ ≠ gb305) v6 x6_2) ∧ Aside0 (w'.heap[gb281]? = some (.cells #[.string a0_0, (.slice (some ad304) l0_1.length c0_1)] 27 (0, 0))) ∧ Aside0 (w'.heap[gb282]? = some (.cells #[.int .i64 0, .int .i64 0, .string (⟨#[]⟩ : ByteArray), (.slice none 0 0)] 54 (0, 0))) ∧ Aside0 (w'.heap[gb305]? = some (.cells #[.string ((rd_T48 l0_1 x12_1).f0), (.slice A304_1 ((rd_T48 l0_1 x12_1).f1).length c304_1), .int .i64 ((rd_T48 l0_1 x12_1).f2), .int .i64 ((rd_T48 l0_1 x12_1).f3), .int .i64 ((rd_T48 l0_1 x12_1).f4), .string ((rd_T48 l0_1 x12_1).f5)] 48 (0, 0))) ∧ Aside0 (Below w.heap.size w w'))
      case atStart => exact ⟨(([] : List (S54))), (0), (by first | rfl | (simp; done) | (simp [*]; done)), H', ⟨Nat.le_refl _⟩, ⟨kN (Kd.N_mono (Kd.N_far (p := ⟨gb305, 5, none⟩) (Kd.N_far (p := ⟨gb305, 4, none⟩) (Kd.N_far (p := ⟨gb305, 3, none⟩) (Kd.N_far (p := ⟨gb305, 2, none⟩) (Kd.N_far (p := ⟨gb305, 1, none⟩) (Kd.N_far (p := ⟨gb305, 0, none⟩) (Kd.N_mono HO_3.out (fun k_ hk => (⟨hk, hk.2⟩ : _ ∧ k_ ≠ gb305))) (fun _ hk => hk.2) (.string ((rd_T48 l0_1 x12_1).f0))) (fun _ hk => hk.2) (.slice A304_1 ((rd_T48 l0_1 x12_1).f1).length c304_1)) (fun _ hk => hk.2) (.int .i64 ((rd_T48 l0_1 x12_1).f2))) (fun _ hk => hk.2) (.int .i64 ((rd_T48 l0_1 x12_1).f3))) (fun _ hk => hk.2) (.int .i64 ((rd_T48 l0_1 x12_1).f4))) (fun _ hk => hk.2) (.string ((rd_T48 l0_1 x12_1).f5))) (fun _ hk => ⟨hk.1.1.1, ⟨(by simp [Value.ownBlock]), ⟨hk.1.1.2.1, ⟨hk.1.1.2.2, hk.1.2⟩⟩⟩⟩))⟩, ⟨kn⟩, ⟨by (with_reducible repeat (first | refine blk_drewN ?_ _ | refine blk_drew ?_ | refine blk_alloc ?_ _)); refine blk_far ?_ NB281_305.out _; (with_reducible repeat (first | refine blk_drewN ?_ _ | refine blk_drew ?_ | refine blk_alloc ?_ _)); refine blk_far ?_ NB281_305.out _; (with_reducible repeat (first | refine blk_drewN ?_ _ | refine blk_drew ?_ | refine blk_alloc ?_ _)); refine blk_far ?_ NB281_305.out _; (with_reducible repeat (first | refine blk_drewN ?_ _ | refine blk_drew ?_ | refine blk_alloc ?_ _)); refine blk_far ?_ NB281_305.out _; (with_reducible repeat (first | refine blk_drewN ?_ _ | refine blk_drew ?_ | refine blk_alloc ?_ _)); refine blk_far ?_ NB281_305.out _; (with_reducible repeat (first | refine blk_drewN ?_ _ | refine blk_drew ?_ | refine blk_alloc ?_ _)); refine blk_far ?_ NB281_305.out _; (with_reducible repeat (first | refine blk_drewN ?_ _ | refine blk_drew ?_ | refine blk_alloc ?_ _)); exact BK281.out⟩, ⟨by (with_reducible repeat (first | refine blk_drewN ?_ _ | refine blk_drew ?_ | refine blk_alloc ?_ _)); refine blk_far ?_ NB282_305.out _; (with_reducible repeat (first | refine blk_drewN ?_ _ | refine blk_drew ?_ | refine blk_alloc ?_ _)); refine blk_far ?_ NB282_305.out _; (with_reducible repeat (first | refine blk_drewN ?_ _ | refine blk_drew ?_ | refine blk_alloc ?_ _)); refine blk_far ?_ NB282_305.out _; (with_reducible repeat (first | refine blk_drewN ?_ _ | refine blk_drew ?_ | refine blk_alloc ?_ _)); refine blk_far ?_ NB282_305.out _; (with_reducible repeat (first | refine blk_drewN ?_ _ | refine blk_drew ?_ | refine blk_alloc ?_ _)); refine blk_far ?_ NB282_305.out _; (with_reducible repeat (first | refine blk_drewN ?_ _ | refine blk_drew ?_ | refine blk_alloc ?_ _)); refine blk_far ?_ NB282_305.out _; (with_reducible repeat (first | refine blk_drewN ?_ _ | refine blk_drew ?_ | refine blk_alloc ?_ _)); exact BK282.out⟩, ⟨by (with_reducible repeat (first | refine blk_drewN ?_ _ | refine blk_drew ?_ | refine blk_alloc ?_ _)); refine blk_put (cs := #[.string ((rd_T48 l0_1 x12_1).f0), .slice A304_1 ((rd_T48 l0_1 x12_1).f1).length c304_1, .int .i64 ((rd_T48 l0_1 x12_1).f2), .int .i64 ((rd_T48 l0_1 x12_1).f3), .int .i64 ((rd_T48 l0_1 x12_1).f4), .string (⟨#[]⟩ : ByteArray)]) ?_ 5 _ rfl; (with_reducible repeat (first | refine blk_drewN ?_ _ | refine blk_drew ?_ | refine blk_alloc ?_ _)); refine blk_put (cs := #[.string ((rd_T48 l0_1 x12_1).f0), .slice A304_1 ((rd_T48 l0_1 x12_1).f1).length c304_1, .int .i64 ((rd_T48 l0_1 x12_1).f2), .int .i64 ((rd_T48 l0_1 x12_1).f3), .int .i64 0, .string (⟨#[]⟩ : ByteArray)]) ?_ 4 _ rfl; (with_reducible repeat (first | refine blk_drewN ?_ _ | refine blk_drew ?_ | refine blk_alloc ?_ _)); refine blk_put (cs := #[.string ((rd_T48 l0_1 x12_1).f0), .slice A304_1 ((rd_T48 l0_1 x12_1).f1).length c304_1, .int .i64 ((rd_T48 l0_1 x12_1).f2), .int .i64 0, .int .i64 0, .string (⟨#[]⟩ : ByteArray)]) ?_ 3 _ rfl; (with_reducible repeat (first | refine blk_drewN ?_ _ | refine blk_drew ?_ | refine blk_alloc ?_ _)); refine blk_put (cs := #[.string ((rd_T48 l0_1 x12_1).f0), .slice A304_1 ((rd_T48 l0_1 x12_1).f1).length c304_1, .int .i64 0, .int .i64 0, .int .i64 0, .string (⟨#[]⟩ : ByteArray)]) ?_ 2 _ rfl; (with_reducible repeat (first | refine blk_drewN ?_ _ | refine blk_drew ?_ | refine blk_alloc ?_ _)); refine blk_put (cs := #[.string ((rd_T48 l0_1 x12_1).f0), .slice none 0 0, .int .i64 0, .int .i64 0, .int .i64 0, .string (⟨#[]⟩ : ByteArray)]) ?_ 1 _ rfl; (with_reducible repeat (first | refine blk_drewN ?_ _ | refine blk_drew ?_ | refine blk_alloc ?_ _)); refine blk_put (cs := #[.string (⟨#[]⟩ : ByteArray), .slice none 0 0, .int .i64 0, .int .i64 0, .int .i64 0, .string (⟨#[]⟩ : ByteArray)]) ?_ 0 _ rfl; (with_reducible repeat (first | refine blk_drewN ?_ _ | refine blk_drew ?_ | refine blk_alloc ?_ _)); exact BK305.out⟩, ⟨bb⟩⟩
      case round =>
       clear H'
       try clear c1
       try clear c2
       try clear p2
       try clear c3
       try clear p3
       try clear q3
       try clear hx3
       try clear c4
       try clear c6
       try clear c6b0
       try clear c7
       try clear c7b0
       try clear c8
       try clear c8b0
       try clear c10
       try clear c11
       try clear hcz12_0
       try clear hcz12_1
       try clear hcz12_2
       try clear hcz12_3
       try clear hcz12_4
       try clear hcz12_5
       try clear hcz5_0
       try clear hcz5_1
       try clear hfz12_0
       try clear hfz12_1
       try clear hfz12_2
       try clear hfz12_3
       try clear hfz12_4
       try clear hfz12_5
       try clear hfz5_0
       try clear hfz5_1
       try clear hx304_0
       try clear hx304_1
       try clear hx304_2
       try clear hx304_3
       try clear hx304_4
       try clear hx304_5
       try clear p2
       try clear p304
       try clear q304
       obtain ⟨x6_2, x19_2, rfl, HA, HK2, HO_3, HO_6, BK281, BK282, BK305, HB⟩ := hrel
       cases gk with
       | zero => exact absurd HA.out (by simp [graph_Value.l1])
       | succ k2 =>
        have H := HA.out
        clear HA
        simp only [graph_Value.l1] at H
        by_cases c13 : x19_2 < (((rd_T48 l0_1 x12_1).f1).length : Int)
        ·rw [if_pos c13] at H
         have c13b0 : decide (x19_2 < (((rd_T48 l0_1 x12_1).f1).length : Int)) = true := decide_eq_true c13
         clear c13
         by_cases c14 : 0 ≤ x19_2
         ·rw [if_pos c14] at H
          have c14b0 : decide (0 ≤ x19_2) = true := decide_eq_true c14
          clear c14
          by_cases c15 : x19_2 < (((rd_T48 l0_1 x12_1).f1).length : Int)
          ·rw [if_pos c15] at H
           have c15b0 : decide (x19_2 < (((rd_T48 l0_1 x12_1).f1).length : Int)) = true := decide_eq_true c15
           clear c15
           replace H := Option.bind_eq_some_iff.mp H
           obtain ⟨⟨t307, t308, t309, t310⟩, A160, H⟩ := H
           replace H : (if x6_2.length < 2513169434916 then (graph_Value.l1 k2 x3_1 (x6_2 ++ [(⟨t307, t308, t309, t310⟩ : S54)]) l0_1 (l0_1.length : Int) x12_1 ((rd_T48 l0_1 x12_1).f1) (((rd_T48 l0_1 x12_1).f1).length : Int) (wrap64 (x19_2 + 1)) a0_0 l0_1 ((rd_T48 l0_1 x12_1).f0) ((rd_T48 l0_1 x12_1).f1) ((rd_T48 l0_1 x12_1).f2) ((rd_T48 l0_1 x12_1).f3) ((rd_T48 l0_1 x12_1).f4) ((rd_T48 l0_1 x12_1).f5)) else (none)) = some (r1, r2, r3, r4) := H
           have A16 := Aside0.mk A160
           clear A160
           by_cases c17 : x6_2.length < 2513169434916
           ·rw [if_pos c17] at H
            have LMc17 := Aside0.mk c17
            clear c17
            obtain ⟨y313, hy313⟩ : ∃ y_ : List (S54), y_ = (x6_2 ++ [(⟨t307, t308, t309, t310⟩ : S54)]) := ⟨_, rfl⟩
            replace H : (graph_Value.l1 k2 x3_1 y313 l0_1 (l0_1.length : Int) x12_1 ((rd_T48 l0_1 x12_1).f1) (((rd_T48 l0_1 x12_1).f1).length : Int) (wrap64 (x19_2 + 1)) a0_0 l0_1 ((rd_T48 l0_1 x12_1).f0) ((rd_T48 l0_1 x12_1).f1) ((rd_T48 l0_1 x12_1).f2) ((rd_T48 l0_1 x12_1).f3) ((rd_T48 l0_1 x12_1).f4) ((rd_T48 l0_1 x12_1).f5)) = some (r1, r2, r3, r4) := by first | (rw [hy313]; with_reducible exact H) | (have H2_ := (Option.bind_some _ _).symm.trans H; rw [hy313]; with_reducible exact H2_) | (have H2_ := (Option.bind_some _ _).symm.trans H; with_reducible exact H2_) | with_reducible exact H | (rw [hy313]; exact H) | exact H
            have Ny313 := Aside0.mk hy313
            clear hy313
            have H' := Aside0.mk H
            clear H
            have p306 : 0 ≤ (x19_2 : Int) := of_decide_eq_true (by first | (with_reducible assumption) | assumption)
            have q306 : x19_2 < (((rd_T48 l0_1 x12_1).f1).length : Int) := of_decide_eq_true (by first | (with_reducible assumption) | assumption)
            obtain ⟨ad306, e306, hx306_0⟩ := Kd.at_string HR304_1.out x19_2 p306 q306
            cases e306
            replace hx306_0 := (HB.out.cell (World.block_lt_of_cell? w _ hx306_0)).trans hx306_0
            replace p306 := eq_true p306
            replace q306 := eq_true q306
            go_wp2_with (first | ((with_reducible refine gate_callee (f := 64) rfl ?_); refine goesL_ (some 25) rfl rfl Try.func64 (by kernel_rfl) rfl #[.string (rdOf ByteArray.empty ((rd_T48 l0_1 x12_1).f1) x19_2)] rfl ag ?_; (with_reducible refine (pack_Str.calls (rdOf ByteArray.empty ((rd_T48 l0_1 x12_1).f1) x19_2) t307 t308 t309 t310 _ A16.out).mono ?_); rintro e w18 ⟨v311, rfl, ho0, hb⟩; refine ⟨_, rfl, ?_⟩; have n0_ := Aside0.mk (Kd.N_elder' (kN HO_3.out) (by first | exact Kd.N_base ho0 | exact Kd.N_base (Kd.R_N ho0) | exact Kd.N_base (Kd.S_N ho0)) hb); have n1_ := Aside0.mk (Kd.N_elder' (kN HO_6.out) (by first | exact Kd.N_base ho0 | exact Kd.N_base (Kd.R_N ho0) | exact Kd.N_base (Kd.S_N ho0)) hb); have n2_ := Aside0.mk (Kd.N_lower (Kd.N_mono (ok' := fun k_ => (w.heap.size ≤ k_) ∧ some k_ ≠ (u3 : Value).ownBlock ∧ some k_ ≠ (u6 : Value).ownBlock ∧ k_ ≠ gb281 ∧ k_ ≠ gb282 ∧ k_ ≠ gb305) (Kd.R_N (Kd.R_bound ho0)) (fun k_ hk_ => ⟨(Nat.le_trans (below_size bb) hk_.2.1), (Kd.fresh' (Kd.N_lt (kN HO_3.out)) k_ hk_.2.1), (Kd.fresh' (Kd.N_lt (kN HO_6.out)) k_ hk_.2.1), (Kd.freshB (rb BK281.out) k_ hk_.2.1), (Kd.freshB (g := gb282) (o := .cells #[.int .i64 0, .int .i64 0, .string (⟨#[]⟩ : ByteArray), .slice none 0 0] 54 (0, 0)) (rb BK282.out) k_ hk_.2.1), (Kd.freshB (rb BK305.out) k_ hk_.2.1)⟩)) (below_size bb)); have n3_ := Aside0.mk (blk_below (rb BK281.out) hb); have n4_ := Aside0.mk (blk_below (g := gb282) (o := .cells #[.int .i64 0, .int .i64 0, .string (⟨#[]⟩ : ByteArray), .slice none 0 0] 54 (0, 0)) (rb BK282.out) hb); have n5_ := Aside0.mk (blk_below (rb BK305.out) hb); have n6_ := Aside0.mk (below_step bb hb); clear HO_3; clear HO_6; clear BK281; clear BK282; clear BK305; clear HB; have HO_3 := n0_; have HO_6 := n1_; have HO312 := n2_; have BK281 := n3_; have BK282 := n4_; have BK305 := n5_; have HB := n6_; clear n0_ n1_ n2_ n3_ n4_ n5_ n6_; (try clear hb); (try clear hb2); (try clear hk); (try clear hi); (try clear ho0); obtain ⟨Ao20, co20, eo20⟩ := Kd.N_slice HO312.out; subst eo20) | ((with_reducible refine gate_builtin (b := .append) (xs := #[.tmp 23, .tmp 26]) rfl ?_); at_builtin; refine Kd.N_append k54 (w0 := w) w.heap.size rfl (.tmp 23) (.tmp 26) 52 54 (.agg #[(.int .i64 0), (.int .i64 0), (.string ⟨#[]⟩), (.slice none 0 0)]) 56 rfl Try.underlying52 info54 rfl (by decide) (by omega) u6 x6_2 (⟨t307, t308, t309, t310⟩ : S54) [.int .i64 t307, .int .i64 t308, .string t309, .slice Ao20 t310.length co20] (fun k_ => (w.heap.size ≤ k_) ∧ some k_ ≠ (u3 : Value).ownBlock ∧ k_ ≠ gb281 ∧ k_ ≠ gb282 ∧ k_ ≠ gb305) (fun k_ => ((fun k_ => (w.heap.size ≤ k_) ∧ some k_ ≠ (u3 : Value).ownBlock ∧ k_ ≠ gb281 ∧ k_ ≠ gb282 ∧ k_ ≠ gb305)) k_ ∧ some k_ ≠ (u6 : Value).ownBlock) rfl rfl ?aP (fun _ hk => hk) ?aF ?aO ?aB ?aS ?aL ?_; (case aP => exact (k54_mkF _ _ (⟨t307, t308, t309, t310⟩ : S54) (Kd.N_reads' (Kd.N_mono (ok' := (fun k_ => ((fun k_ => (w.heap.size ≤ k_) ∧ some k_ ≠ (u3 : Value).ownBlock ∧ k_ ≠ gb281 ∧ k_ ≠ gb282 ∧ k_ ≠ gb305)) k_ ∧ some k_ ≠ (u6 : Value).ownBlock)) (HO312.out) (fun k_ hk => ⟨⟨hk.1, ⟨hk.2.1, ⟨hk.2.2.2.1, ⟨hk.2.2.2.2.1, hk.2.2.2.2.2⟩⟩⟩⟩, hk.2.2.1⟩))).2.1 (Kd.N_F (Kd.N_mono (ok' := (fun k_ => ((fun k_ => (w.heap.size ≤ k_) ∧ some k_ ≠ (u3 : Value).ownBlock ∧ k_ ≠ gb281 ∧ k_ ≠ gb282 ∧ k_ ≠ gb305)) k_ ∧ some k_ ≠ (u6 : Value).ownBlock)) (HO312.out) (fun k_ hk => ⟨⟨hk.1, ⟨hk.2.1, ⟨hk.2.2.2.1, ⟨hk.2.2.2.2.1, hk.2.2.2.2.2⟩⟩⟩⟩, hk.2.2.1⟩))))); (case aB => exact bb); (case aF => exact (fun k_ hk => ⟨(Nat.le_trans (below_size bb) hk), Kd.fresh' (Kd.N_lt (kN HO_3.out)) k_ hk, Kd.freshB (rb BK281.out) k_ hk, Kd.freshB (g := gb282) (o := .cells #[.int .i64 0, .int .i64 0, .string (⟨#[]⟩ : ByteArray), .slice none 0 0] 54 (0, 0)) (rb BK282.out) k_ hk, Kd.freshB (rb BK305.out) k_ hk⟩)); (case aO => exact (kN (Kd.N_mono HO_6.out (fun _ hk => ⟨hk.1.1, ⟨hk.1.2.1, ⟨hk.1.2.2.1, ⟨hk.1.2.2.2.1, hk.1.2.2.2.2⟩⟩⟩⟩)))); (case aS => exact (below_size bb)); (case aL => have := LMc17.out; omega); intro v314 w19 ho hb hg hat; rw [← Ny313.out] at ho; have n0_ := Aside0.mk (Kd.N_afterv (ok := (fun k_ => (w.heap.size ≤ k_) ∧ some k_ ≠ (.slice Ao20 t310.length co20 : Value).ownBlock ∧ k_ ≠ gb281 ∧ k_ ≠ gb282 ∧ k_ ≠ gb305)) (kN (Kd.N_mono HO_3.out (fun _ hk => ⟨⟨hk.1.1, ⟨hk.2, ⟨hk.1.2.2.1, ⟨hk.1.2.2.2.1, hk.1.2.2.2.2⟩⟩⟩⟩, hk.1.2.1⟩))) hg hat); have n1_ := Aside0.mk (blk_grown (rb BK281.out) hg (Kd.N_ne HO_6.out BK281.out (by decide))); have n2_ := Aside0.mk (blk_grown (g := gb282) (o := .cells #[.int .i64 0, .int .i64 0, .string (⟨#[]⟩ : ByteArray), .slice none 0 0] 54 (0, 0)) (rb BK282.out) hg (Kd.N_away HO_6.out (fun _ hk => hk.1.2.2.2.1))); have n3_ := Aside0.mk (blk_grown (rb BK305.out) hg (Kd.N_ne HO_6.out BK305.out (by decide))); have n4_ := Aside0.mk (hb); have n5_ := Aside0.mk (ho); clear HO_3; clear BK281; clear BK282; clear BK305; clear HB; clear HO_6; clear HO312; have HO_3 := n0_; have BK281 := n1_; have BK282 := n2_; have BK305 := n3_; have HB := n4_; have HO315 := n5_; clear n0_ n1_ n2_ n3_ n4_ n5_; clear ho hb hg hat))
            go_roundg k2
            case measure => have := HK1.out; have := HK2.out; omega
            case rel => exact ⟨(y313), (wrap64 (x19_2 + 1)), (by first | rfl | (simp; done) | (simp [*]; done)), H', ⟨by have := HK1.out; have := HK2.out; omega⟩, ⟨kN (Kd.N_mono HO_3.out (fun _ hk => ⟨hk.1.1, ⟨hk.2, ⟨hk.1.2.2.1, ⟨hk.1.2.2.2.1, hk.1.2.2.2.2⟩⟩⟩⟩))⟩, ⟨kN HO315.out⟩, ⟨by (with_reducible repeat (first | refine blk_drewN ?_ _ | refine blk_drew ?_ | refine blk_alloc ?_ _)); exact BK281.out⟩, ⟨by (with_reducible repeat (first | refine blk_drewN ?_ _ | refine blk_drew ?_ | refine blk_alloc ?_ _)); exact BK282.out⟩, ⟨by (with_reducible repeat (first | refine blk_drewN ?_ _ | refine blk_drew ?_ | refine blk_alloc ?_ _)); exact BK305.out⟩, ⟨bb⟩⟩
           ·rw [if_neg c17] at H
            exact absurd H (by simp)
          ·rw [if_neg c15] at H
           exact absurd H (by simp)
         ·rw [if_neg c14] at H
          exact absurd H (by simp)
        ·rw [if_neg c13] at H
         have c13b0 : decide (x19_2 < (((rd_T48 l0_1 x12_1).f1).length : Int)) = false := decide_eq_false c13
         clear c13
         replace H := Option.bind_eq_some_iff.mp H
         obtain ⟨⟨t316, t317, t318, t319⟩, A210, H⟩ := H
         replace H : ((pack_All.f x6_2).bind fun bt322 => ((pack_Num.f ((rd_T48 l0_1 x12_1).f2)).bind fun bt328 => ((pack_Num.f ((rd_T48 l0_1 x12_1).f3)).bind fun bt334 => ((pack_Num.f ((rd_T48 l0_1 x12_1).f4)).bind fun bt340 => ((pack_Str.f ((rd_T48 l0_1 x12_1).f5)).bind fun bt346 => ((pack_All.f (([(⟨t316, t317, t318, t319⟩ : S54), (⟨bt322.1, bt322.2.1, bt322.2.2.1, bt322.2.2.2⟩ : S54), (⟨bt328.1, bt328.2.1, bt328.2.2.1, bt328.2.2.2⟩ : S54), (⟨bt334.1, bt334.2.1, bt334.2.2.1, bt334.2.2.2⟩ : S54), (⟨bt340.1, bt340.2.1, bt340.2.2.1, bt340.2.2.2⟩ : S54), (⟨bt346.1, bt346.2.1, bt346.2.2.1, bt346.2.2.2⟩ : S54)] : List (S54)))).bind fun bt355 => (if x3_1.length < 2513169434916 then (graph_Value.l0 k2 (x3_1 ++ [(⟨bt355.1, bt355.2.1, bt355.2.2.1, bt355.2.2.2⟩ : S54)]) l0_1 (l0_1.length : Int) (wrap64 (x12_1 + 1)) a0_0 l0_1) else (none)))))))) = some (r1, r2, r3, r4) := H
         have A21 := Aside0.mk A210
         clear A210
         replace H := Option.bind_eq_some_iff.mp H
         obtain ⟨⟨t322, t323, t324, t325⟩, A220, H⟩ := H
         replace H : ((pack_Num.f ((rd_T48 l0_1 x12_1).f2)).bind fun bt328 => ((pack_Num.f ((rd_T48 l0_1 x12_1).f3)).bind fun bt334 => ((pack_Num.f ((rd_T48 l0_1 x12_1).f4)).bind fun bt340 => ((pack_Str.f ((rd_T48 l0_1 x12_1).f5)).bind fun bt346 => ((pack_All.f (([(⟨t316, t317, t318, t319⟩ : S54), (⟨t322, t323, t324, t325⟩ : S54), (⟨bt328.1, bt328.2.1, bt328.2.2.1, bt328.2.2.2⟩ : S54), (⟨bt334.1, bt334.2.1, bt334.2.2.1, bt334.2.2.2⟩ : S54), (⟨bt340.1, bt340.2.1, bt340.2.2.1, bt340.2.2.2⟩ : S54), (⟨bt346.1, bt346.2.1, bt346.2.2.1, bt346.2.2.2⟩ : S54)] : List (S54)))).bind fun bt355 => (if x3_1.length < 2513169434916 then (graph_Value.l0 k2 (x3_1 ++ [(⟨bt355.1, bt355.2.1, bt355.2.2.1, bt355.2.2.2⟩ : S54)]) l0_1 (l0_1.length : Int) (wrap64 (x12_1 + 1)) a0_0 l0_1) else (none))))))) = some (r1, r2, r3, r4) := H
         have A22 := Aside0.mk A220
         clear A220
         replace H := Option.bind_eq_some_iff.mp H
         obtain ⟨⟨t328, t329, t330, t331⟩, A230, H⟩ := H
         replace H : ((pack_Num.f ((rd_T48 l0_1 x12_1).f3)).bind fun bt334 => ((pack_Num.f ((rd_T48 l0_1 x12_1).f4)).bind fun bt340 => ((pack_Str.f ((rd_T48 l0_1 x12_1).f5)).bind fun bt346 => ((pack_All.f (([(⟨t316, t317, t318, t319⟩ : S54), (⟨t322, t323, t324, t325⟩ : S54), (⟨t328, t329, t330, t331⟩ : S54), (⟨bt334.1, bt334.2.1, bt334.2.2.1, bt334.2.2.2⟩ : S54), (⟨bt340.1, bt340.2.1, bt340.2.2.1, bt340.2.2.2⟩ : S54), (⟨bt346.1, bt346.2.1, bt346.2.2.1, bt346.2.2.2⟩ : S54)] : List (S54)))).bind fun bt355 => (if x3_1.length < 2513169434916 then (graph_Value.l0 k2 (x3_1 ++ [(⟨bt355.1, bt355.2.1, bt355.2.2.1, bt355.2.2.2⟩ : S54)]) l0_1 (l0_1.length : Int) (wrap64 (x12_1 + 1)) a0_0 l0_1) else (none)))))) = some (r1, r2, r3, r4) := H
         have A23 := Aside0.mk A230
         clear A230
         replace H := Option.bind_eq_some_iff.mp H
         obtain ⟨⟨t334, t335, t336, t337⟩, A240, H⟩ := H
         replace H : ((pack_Num.f ((rd_T48 l0_1 x12_1).f4)).bind fun bt340 => ((pack_Str.f ((rd_T48 l0_1 x12_1).f5)).bind fun bt346 => ((pack_All.f (([(⟨t316, t317, t318, t319⟩ : S54), (⟨t322, t323, t324, t325⟩ : S54), (⟨t328, t329, t330, t331⟩ : S54), (⟨t334, t335, t336, t337⟩ : S54), (⟨bt340.1, bt340.2.1, bt340.2.2.1, bt340.2.2.2⟩ : S54), (⟨bt346.1, bt346.2.1, bt346.2.2.1, bt346.2.2.2⟩ : S54)] : List (S54)))).bind fun bt355 => (if x3_1.length < 2513169434916 then (graph_Value.l0 k2 (x3_1 ++ [(⟨bt355.1, bt355.2.1, bt355.2.2.1, bt355.2.2.2⟩ : S54)]) l0_1 (l0_1.length : Int) (wrap64 (x12_1 + 1)) a0_0 l0_1) else (none))))) = some (r1, r2, r3, r4) := H
         have A24 := Aside0.mk A240
         clear A240
         replace H := Option.bind_eq_some_iff.mp H
         obtain ⟨⟨t340, t341, t342, t343⟩, A250, H⟩ := H
         replace H : ((pack_Str.f ((rd_T48 l0_1 x12_1).f5)).bind fun bt346 => ((pack_All.f (([(⟨t316, t317, t318, t319⟩ : S54), (⟨t322, t323, t324, t325⟩ : S54), (⟨t328, t329, t330, t331⟩ : S54), (⟨t334, t335, t336, t337⟩ : S54), (⟨t340, t341, t342, t343⟩ : S54), (⟨bt346.1, bt346.2.1, bt346.2.2.1, bt346.2.2.2⟩ : S54)] : List (S54)))).bind fun bt355 => (if x3_1.length < 2513169434916 then (graph_Value.l0 k2 (x3_1 ++ [(⟨bt355.1, bt355.2.1, bt355.2.2.1, bt355.2.2.2⟩ : S54)]) l0_1 (l0_1.length : Int) (wrap64 (x12_1 + 1)) a0_0 l0_1) else (none)))) = some (r1, r2, r3, r4) := H
         have A25 := Aside0.mk A250
         clear A250
         replace H := Option.bind_eq_some_iff.mp H
         obtain ⟨⟨t346, t347, t348, t349⟩, A260, H⟩ := H
         replace H : ((pack_All.f (([(⟨t316, t317, t318, t319⟩ : S54), (⟨t322, t323, t324, t325⟩ : S54), (⟨t328, t329, t330, t331⟩ : S54), (⟨t334, t335, t336, t337⟩ : S54), (⟨t340, t341, t342, t343⟩ : S54), (⟨t346, t347, t348, t349⟩ : S54)] : List (S54)))).bind fun bt355 => (if x3_1.length < 2513169434916 then (graph_Value.l0 k2 (x3_1 ++ [(⟨bt355.1, bt355.2.1, bt355.2.2.1, bt355.2.2.2⟩ : S54)]) l0_1 (l0_1.length : Int) (wrap64 (x12_1 + 1)) a0_0 l0_1) else (none))) = some (r1, r2, r3, r4) := H
         have A26 := Aside0.mk A260
         clear A260
         obtain ⟨y352, hy352⟩ : ∃ y_ : List (S54), y_ = (([(⟨t316, t317, t318, t319⟩ : S54), (⟨t322, t323, t324, t325⟩ : S54), (⟨t328, t329, t330, t331⟩ : S54), (⟨t334, t335, t336, t337⟩ : S54), (⟨t340, t341, t342, t343⟩ : S54), (⟨t346, t347, t348, t349⟩ : S54)] : List (S54))) := ⟨_, rfl⟩
         replace H : ((pack_All.f y352).bind fun bt355 => (if x3_1.length < 2513169434916 then (graph_Value.l0 k2 (x3_1 ++ [(⟨bt355.1, bt355.2.1, bt355.2.2.1, bt355.2.2.2⟩ : S54)]) l0_1 (l0_1.length : Int) (wrap64 (x12_1 + 1)) a0_0 l0_1) else (none))) = some (r1, r2, r3, r4) := by first | (rw [hy352]; with_reducible exact H) | (have H2_ := (Option.bind_some _ _).symm.trans H; rw [hy352]; with_reducible exact H2_) | (have H2_ := (Option.bind_some _ _).symm.trans H; with_reducible exact H2_) | with_reducible exact H | (rw [hy352]; exact H) | exact H
         have Ny352 := Aside0.mk hy352
         clear hy352
         replace H := Option.bind_eq_some_iff.mp H
         obtain ⟨⟨t355, t356, t357, t358⟩, A270, H⟩ := H
         replace H : (if x3_1.length < 2513169434916 then (graph_Value.l0 k2 (x3_1 ++ [(⟨t355, t356, t357, t358⟩ : S54)]) l0_1 (l0_1.length : Int) (wrap64 (x12_1 + 1)) a0_0 l0_1) else (none)) = some (r1, r2, r3, r4) := H
         have A27 := Aside0.mk A270
         clear A270
         by_cases c28 : x3_1.length < 2513169434916
         ·rw [if_pos c28] at H
          have LMc28 := Aside0.mk c28
          clear c28
          obtain ⟨y361, hy361⟩ : ∃ y_ : List (S54), y_ = (x3_1 ++ [(⟨t355, t356, t357, t358⟩ : S54)]) := ⟨_, rfl⟩
          replace H : (graph_Value.l0 k2 y361 l0_1 (l0_1.length : Int) (wrap64 (x12_1 + 1)) a0_0 l0_1) = some (r1, r2, r3, r4) := by first | (rw [hy361]; with_reducible exact H) | (have H2_ := (Option.bind_some _ _).symm.trans H; rw [hy361]; with_reducible exact H2_) | (have H2_ := (Option.bind_some _ _).symm.trans H; with_reducible exact H2_) | with_reducible exact H | (rw [hy361]; exact H) | exact H
          have Ny361 := Aside0.mk hy361
          clear hy361
          have H' := Aside0.mk H
          clear H
          try go_wp2
          have n0_ := Aside0.mk (Kd.N_drew HO_3.out)
          have n1_ := Aside0.mk (Kd.N_drew HO_6.out)
          have n2_ := Aside0.mk (blk_drew BK281.out)
          have n3_ := Aside0.mk (blk_drew BK282.out)
          have n4_ := Aside0.mk (blk_drew BK305.out)
          have n5_ := Aside0.mk (below_drew1 HB.out)
          clear HO_3
          clear HO_6
          clear BK281
          clear BK282
          clear BK305
          clear HB
          have HO_3 := n0_
          have HO_6 := n1_
          have BK281 := n2_
          have BK282 := n3_
          have BK305 := n4_
          have HB := n5_
          clear n0_ n1_ n2_ n3_ n4_ n5_
          refine start_ (n := 23) (S := fun w' => w'.cell? ⟨gb305, 0, none⟩ = some (.string ((rd_T48 l0_1 x12_1).f0)) ∧ w'.cell? ⟨gb305, 1, none⟩ = some (.slice A304_1 ((rd_T48 l0_1 x12_1).f1).length c304_1) ∧ w'.cell? ⟨gb305, 2, none⟩ = some (.int .i64 ((rd_T48 l0_1 x12_1).f2)) ∧ w'.cell? ⟨gb305, 3, none⟩ = some (.int .i64 ((rd_T48 l0_1 x12_1).f3)) ∧ w'.cell? ⟨gb305, 4, none⟩ = some (.int .i64 ((rd_T48 l0_1 x12_1).f4)) ∧ w'.cell? ⟨gb305, 5, none⟩ = some (.string ((rd_T48 l0_1 x12_1).f5))) (ds := []) #[false, false, false, false, false, false, false, false, false, false, false, false, false, false, false, false, false, false, false, false, false, false, false] (by kernel_rfl) rfl rfl ⟨(blk_cell BK305.out 0).trans rfl, (blk_cell BK305.out 1).trans rfl, (blk_cell BK305.out 2).trans rfl, (blk_cell BK305.out 3).trans rfl, (blk_cell BK305.out 4).trans rfl, (blk_cell BK305.out 5).trans rfl⟩ (fun hHeld => ?_); refine with_tabW graph_Value.tab11 graph_Value.bits11 (fun HT_ HW_ => ?_)
          generalize wr.drew = w29 at HO_3 HO_6 BK281 BK282 BK305 HB hHeld ⊢
          refine pure_ (i := 0) (N := some 29) (v := ?_) (a' := ?_) #[true, false, false, false, false, false, false, false, false, false, false, false, false, false, false, false, false, false, false, false, false, false, false] rfl rfl (any_of HT_.out (by kernel_rfl)) (fun _ _ _ h => h) (Or.inl ⟨by rfl, ?_⟩) ?_ ?_
          rotate_left
          ·intro w'
           go_simp
           with_reducible rfl
          rotate_left
          ·simp only [Act.put, List.setIfInBounds_toArray, List.set_cons_zero, List.set_cons_succ, i64_w, i32_w]
           rfl
          refine pure_ (i := 1) (N := some 30) (v := ?_) (a' := ?_) #[true, true, false, false, false, false, false, false, false, false, false, false, false, false, false, false, false, false, false, false, false, false, false] rfl rfl (any_of HT_.out (by kernel_rfl)) (fun _ _ _ h => h) (Or.inl ⟨by rfl, ?_⟩) ?_ ?_
          rotate_left
          ·intro w'
           go_simp
           with_reducible rfl
          rotate_left
          ·simp only [Act.put, List.setIfInBounds_toArray, List.set_cons_zero, List.set_cons_succ, i64_w, i32_w]
           rfl
          refine pure_ (i := 4) (N := some 33) (v := ?_) (a' := ?_) #[true, true, false, false, true, false, false, false, false, false, false, false, false, false, false, false, false, false, false, false, false, false, false] rfl rfl (any_of HT_.out (by kernel_rfl)) (fun _ _ _ h => h) (Or.inl ⟨by rfl, ?_⟩) ?_ ?_
          rotate_left
          ·intro w'
           go_simp
           with_reducible rfl
          rotate_left
          ·simp only [Act.put, List.setIfInBounds_toArray, List.set_cons_zero, List.set_cons_succ, i64_w, i32_w]
           rfl
          refine pure_ (i := 6) (N := some 35) (v := ?_) (a' := ?_) #[true, true, false, false, true, false, true, false, false, false, false, false, false, false, false, false, false, false, false, false, false, false, false] rfl rfl (any_of HT_.out (by kernel_rfl)) (fun _ _ _ h => h) (Or.inl ⟨by rfl, ?_⟩) ?_ ?_
          rotate_left
          ·intro w'
           go_simp
           with_reducible rfl
          rotate_left
          ·simp only [Act.put, List.setIfInBounds_toArray, List.set_cons_zero, List.set_cons_succ, i64_w, i32_w]
           rfl
          refine pure_ (i := 9) (N := some 38) (v := ?_) (a' := ?_) #[true, true, false, false, true, false, true, false, false, true, false, false, false, false, false, false, false, false, false, false, false, false, false] rfl rfl (any_of HT_.out (by kernel_rfl)) (fun _ _ _ h => h) (Or.inl ⟨by rfl, ?_⟩) ?_ ?_
          rotate_left
          ·intro w'
           go_simp
           with_reducible rfl
          rotate_left
          ·simp only [Act.put, List.setIfInBounds_toArray, List.set_cons_zero, List.set_cons_succ, i64_w, i32_w]
           rfl
          refine pure_ (i := 12) (N := some 41) (v := ?_) (a' := ?_) #[true, true, false, false, true, false, true, false, false, true, false, false, true, false, false, false, false, false, false, false, false, false, false] rfl rfl (any_of HT_.out (by kernel_rfl)) (fun _ _ _ h => h) (Or.inl ⟨by rfl, ?_⟩) ?_ ?_
          rotate_left
          ·intro w'
           go_simp
           with_reducible rfl
          rotate_left
          ·simp only [Act.put, List.setIfInBounds_toArray, List.set_cons_zero, List.set_cons_succ, i64_w, i32_w]
           rfl
          refine pure_ (i := 15) (N := some 44) (v := ?_) (a' := ?_) #[true, true, false, false, true, false, true, false, false, true, false, false, true, false, false, true, false, false, false, false, false, false, false] rfl rfl (any_of HT_.out (by kernel_rfl)) (fun _ _ _ h => h) (Or.inl ⟨by rfl, ?_⟩) ?_ ?_
          rotate_left
          ·intro w'
           go_simp
           with_reducible rfl
          rotate_left
          ·simp only [Act.put, List.setIfInBounds_toArray, List.set_cons_zero, List.set_cons_succ, i64_w, i32_w]
           rfl
          refine take_ (i := 2) (N := some 31) (v := ?_) (a' := ?_) #[true, true, true, false, true, false, true, false, false, true, false, false, true, false, false, true, false, false, false, false, false, false, false] rfl rfl (take_ofW HT_.out HW_.out (by kernel_rfl)) (fun _ _ _ h => h) (Or.inl ⟨by rfl, ?_⟩) hHeld ?_ ?_
          rotate_left
          ·rintro w' ⟨s0, s1, s2, s3, s4, s5⟩
           go_simp
           with_reducible rfl
          rotate_left
          ·simp only [Act.put, List.setIfInBounds_toArray, List.set_cons_zero, List.set_cons_succ, i64_w, i32_w]
           rfl
          refine take_ (i := 7) (N := some 36) (v := ?_) (a' := ?_) #[true, true, true, false, true, false, true, true, false, true, false, false, true, false, false, true, false, false, false, false, false, false, false] rfl rfl (take_ofW HT_.out HW_.out (by kernel_rfl)) (fun _ _ _ h => h) (Or.inl ⟨by rfl, ?_⟩) hHeld ?_ ?_
          rotate_left
          ·rintro w' ⟨s0, s1, s2, s3, s4, s5⟩
           go_simp
           with_reducible rfl
          rotate_left
          ·simp only [Act.put, List.setIfInBounds_toArray, List.set_cons_zero, List.set_cons_succ, i64_w, i32_w]
           rfl
          refine take_ (i := 10) (N := some 39) (v := ?_) (a' := ?_) #[true, true, true, false, true, false, true, true, false, true, true, false, true, false, false, true, false, false, false, false, false, false, false] rfl rfl (take_ofW HT_.out HW_.out (by kernel_rfl)) (fun _ _ _ h => h) (Or.inl ⟨by rfl, ?_⟩) hHeld ?_ ?_
          rotate_left
          ·rintro w' ⟨s0, s1, s2, s3, s4, s5⟩
           go_simp
           with_reducible rfl
          rotate_left
          ·simp only [Act.put, List.setIfInBounds_toArray, List.set_cons_zero, List.set_cons_succ, i64_w, i32_w]
           rfl
          refine take_ (i := 13) (N := some 42) (v := ?_) (a' := ?_) #[true, true, true, false, true, false, true, true, false, true, true, false, true, true, false, true, false, false, false, false, false, false, false] rfl rfl (take_ofW HT_.out HW_.out (by kernel_rfl)) (fun _ _ _ h => h) (Or.inl ⟨by rfl, ?_⟩) hHeld ?_ ?_
          rotate_left
          ·rintro w' ⟨s0, s1, s2, s3, s4, s5⟩
           go_simp
           with_reducible rfl
          rotate_left
          ·simp only [Act.put, List.setIfInBounds_toArray, List.set_cons_zero, List.set_cons_succ, i64_w, i32_w]
           rfl
          refine take_ (i := 16) (N := some 45) (v := ?_) (a' := ?_) #[true, true, true, false, true, false, true, true, false, true, true, false, true, true, false, true, true, false, false, false, false, false, false] rfl rfl (take_ofW HT_.out HW_.out (by kernel_rfl)) (fun _ _ _ h => h) (Or.inl ⟨by rfl, ?_⟩) hHeld ?_ ?_
          rotate_left
          ·rintro w' ⟨s0, s1, s2, s3, s4, s5⟩
           go_simp
           with_reducible rfl
          rotate_left
          ·simp only [Act.put, List.setIfInBounds_toArray, List.set_cons_zero, List.set_cons_succ, i64_w, i32_w]
           rfl
          refine one_ (i := 3) (N := some 32) #[true, true, true, true, true, false, true, true, false, true, true, false, true, true, false, true, true, false, false, false, false, false, false] rfl rfl (one_of HT_.out (by kernel_rfl)) (by decide) (fun K hK => ?_)
          refine goes_ Try.func64 (by kernel_rfl) rfl #[.string ((rd_T48 l0_1 x12_1).f0)] (by rfl) rfl rfl ag ?_
          with_reducible refine (pack_Str.calls ((rd_T48 l0_1 x12_1).f0) t316 t317 t318 t319 _ A21.out).mono ?_
          rintro e w30 ⟨v320, rfl, ho0, hb⟩
          refine ⟨_, rfl, ?_⟩
          have n0_ := Aside0.mk (Kd.N_elder' (kN HO_3.out) (by first | exact Kd.N_base ho0 | exact Kd.N_base (Kd.R_N ho0) | exact Kd.N_base (Kd.S_N ho0)) hb)
          have n1_ := Aside0.mk (Kd.N_elder' (kN HO_6.out) (by first | exact Kd.N_base ho0 | exact Kd.N_base (Kd.R_N ho0) | exact Kd.N_base (Kd.S_N ho0)) hb)
          have n2_ := Aside0.mk (Kd.N_lower (Kd.N_mono (ok' := fun k_ => (w.heap.size ≤ k_) ∧ some k_ ≠ (u3 : Value).ownBlock ∧ some k_ ≠ (u6 : Value).ownBlock ∧ k_ ≠ gb281 ∧ k_ ≠ gb282 ∧ k_ ≠ gb305) (Kd.R_N (Kd.R_bound ho0)) (fun k_ hk_ => ⟨(Nat.le_trans (below_size bb) hk_.2.1), (Kd.fresh' (Kd.N_lt (kN HO_3.out)) k_ hk_.2.1), (Kd.fresh' (Kd.N_lt (kN HO_6.out)) k_ hk_.2.1), (Kd.freshB (rb BK281.out) k_ hk_.2.1), (Kd.freshB (g := gb282) (o := .cells #[.int .i64 0, .int .i64 0, .string (⟨#[]⟩ : ByteArray), .slice none 0 0] 54 (0, 0)) (rb BK282.out) k_ hk_.2.1), (Kd.freshB (rb BK305.out) k_ hk_.2.1)⟩)) (below_size bb))
          have n3_ := Aside0.mk (blk_below (rb BK281.out) hb)
          have n4_ := Aside0.mk (blk_below (g := gb282) (o := .cells #[.int .i64 0, .int .i64 0, .string (⟨#[]⟩ : ByteArray), .slice none 0 0] 54 (0, 0)) (rb BK282.out) hb)
          have n5_ := Aside0.mk (blk_below (rb BK305.out) hb)
          have n6_ := Aside0.mk (below_step bb hb)
          clear HO_3
          clear HO_6
          clear BK281
          clear BK282
          clear BK305
          clear HB
          have HO_3 := n0_
          have HO_6 := n1_
          have HO321 := n2_
          have BK281 := n3_
          have BK282 := n4_
          have BK305 := n5_
          have HB := n6_
          clear n0_ n1_ n2_ n3_ n4_ n5_ n6_
          (try clear hb)
          (try clear hb2)
          (try clear hk)
          (try clear hi)
          (try clear ho0)
          obtain ⟨Ao31, co31, eo31⟩ := Kd.N_slice HO_6.out
          (first | subst eo31 | (injection eo31 with f1_ f2_ f3_; have f4_ := f1_.symm; have f5_ := f3_.symm; clear f1_ f2_ f3_; subst f4_; subst f5_))
          refine hK.out _ _ ⟨(blk_cell BK305.out 0).trans rfl, (blk_cell BK305.out 1).trans rfl, (blk_cell BK305.out 2).trans rfl, (blk_cell BK305.out 3).trans rfl, (blk_cell BK305.out 4).trans rfl, (blk_cell BK305.out 5).trans rfl⟩ (fun hHeld => ?_)
          clear hK K
          refine norm_ (a' := ?_) ?_ ?_
          rotate_left
          ·show Act.put _ (some 32) _ = _
           simp only [Act.put, List.setIfInBounds_toArray, List.set_cons_zero, List.set_cons_succ, i64_w, i32_w]
           rfl
          refine one_ (i := 5) (N := some 34) #[true, true, true, true, true, true, true, true, false, true, true, false, true, true, false, true, true, false, false, false, false, false, false] rfl rfl (one_of HT_.out (by kernel_rfl)) (by decide) (fun K hK => ?_)
          refine goes_ Try.func40 (by kernel_rfl) rfl #[.slice Ao31 x6_2.length co31] (by rfl) rfl rfl ag ?_
          with_reducible refine (pack_All.calls (fun k_ => (((w.heap.size ≤ k_) ∧ (some k_ ≠ (u3 : Value).ownBlock ∧ (k_ ≠ gb281 ∧ (k_ ≠ gb282 ∧ k_ ≠ gb305)))) ∧ some k_ ≠ (v320 : Value).ownBlock)) _ _ x6_2 t322 t323 t324 t325 _ ?side1 A22.out).mono ?_
          (case side1 => exact Kd.N_V (HO_6.out))
          rintro e w32 ⟨v326, rfl, ho0, hb⟩
          refine ⟨_, rfl, ?_⟩
          have n0_ := Aside0.mk (Kd.N_elder' (kN HO_3.out) (by first | exact Kd.N_base ho0 | exact Kd.N_base (Kd.R_N ho0) | exact Kd.N_base (Kd.S_N ho0)) hb)
          have n1_ := Aside0.mk (Kd.N_elder' (kN HO_6.out) (by first | exact Kd.N_base ho0 | exact Kd.N_base (Kd.R_N ho0) | exact Kd.N_base (Kd.S_N ho0)) hb)
          have n2_ := Aside0.mk (Kd.N_elder' (kN HO321.out) (by first | exact Kd.N_base ho0 | exact Kd.N_base (Kd.R_N ho0) | exact Kd.N_base (Kd.S_N ho0)) hb)
          have n3_ := Aside0.mk (Kd.N_lower (Kd.N_mono (ok' := fun k_ => (w.heap.size ≤ k_) ∧ some k_ ≠ (u3 : Value).ownBlock ∧ some k_ ≠ (v320 : Value).ownBlock ∧ k_ ≠ gb281 ∧ k_ ≠ gb282 ∧ k_ ≠ gb305) ho0 (fun k_ hk_ => ⟨Or.elim hk_ (fun hs_ => hs_.1.1) (fun hn_ => (Nat.le_trans (below_size bb) hn_)), Or.elim hk_ (fun hs_ => hs_.1.2.1) (fun hn_ => (Kd.fresh' (Kd.N_lt (kN HO_3.out)) k_ hn_)), Or.elim hk_ (fun hs_ => hs_.2) (fun hn_ => (Kd.fresh' (Kd.N_lt (kN HO321.out)) k_ hn_)), Or.elim hk_ (fun hs_ => hs_.1.2.2.1) (fun hn_ => (Kd.freshB (rb BK281.out) k_ hn_)), Or.elim hk_ (fun hs_ => hs_.1.2.2.2.1) (fun hn_ => (Kd.freshB (g := gb282) (o := .cells #[.int .i64 0, .int .i64 0, .string (⟨#[]⟩ : ByteArray), .slice none 0 0] 54 (0, 0)) (rb BK282.out) k_ hn_)), Or.elim hk_ (fun hs_ => hs_.1.2.2.2.2) (fun hn_ => (Kd.freshB (rb BK305.out) k_ hn_))⟩)) (below_size bb))
          have n4_ := Aside0.mk (blk_below (rb BK281.out) hb)
          have n5_ := Aside0.mk (blk_below (g := gb282) (o := .cells #[.int .i64 0, .int .i64 0, .string (⟨#[]⟩ : ByteArray), .slice none 0 0] 54 (0, 0)) (rb BK282.out) hb)
          have n6_ := Aside0.mk (blk_below (rb BK305.out) hb)
          have n7_ := Aside0.mk (below_step bb hb)
          clear HO_3
          clear HO_6
          clear HO321
          clear BK281
          clear BK282
          clear BK305
          clear HB
          have HO_3 := n0_
          have HO_6 := n1_
          have HO321 := n2_
          have HO327 := n3_
          have BK281 := n4_
          have BK282 := n5_
          have BK305 := n6_
          have HB := n7_
          clear n0_ n1_ n2_ n3_ n4_ n5_ n6_ n7_
          (try clear hb)
          (try clear hb2)
          (try clear hk)
          (try clear hi)
          (try clear ho0)
          refine hK.out _ _ ⟨(blk_cell BK305.out 0).trans rfl, (blk_cell BK305.out 1).trans rfl, (blk_cell BK305.out 2).trans rfl, (blk_cell BK305.out 3).trans rfl, (blk_cell BK305.out 4).trans rfl, (blk_cell BK305.out 5).trans rfl⟩ (fun hHeld => ?_)
          clear hK K
          refine norm_ (a' := ?_) ?_ ?_
          rotate_left
          ·show Act.put _ (some 34) _ = _
           simp only [Act.put, List.setIfInBounds_toArray, List.set_cons_zero, List.set_cons_succ, i64_w, i32_w]
           rfl
          refine one_ (i := 8) (N := some 37) #[true, true, true, true, true, true, true, true, true, true, true, false, true, true, false, true, true, false, false, false, false, false, false] rfl rfl (one_of HT_.out (by kernel_rfl)) (by decide) (fun K hK => ?_)
          refine goes_ Try.func48 (by kernel_rfl) rfl #[.int .i64 ((rd_T48 l0_1 x12_1).f2)] (by rfl) rfl rfl ag ?_
          with_reducible refine (pack_Num.calls ((rd_T48 l0_1 x12_1).f2) t328 t329 t330 t331 _ A23.out).mono ?_
          rintro e w33 ⟨v332, rfl, ho0, hb⟩
          refine ⟨_, rfl, ?_⟩
          have n0_ := Aside0.mk (Kd.N_elder' (kN HO_3.out) (by first | exact Kd.N_base ho0 | exact Kd.N_base (Kd.R_N ho0) | exact Kd.N_base (Kd.S_N ho0)) hb)
          have n1_ := Aside0.mk (Kd.N_elder' (kN HO_6.out) (by first | exact Kd.N_base ho0 | exact Kd.N_base (Kd.R_N ho0) | exact Kd.N_base (Kd.S_N ho0)) hb)
          have n2_ := Aside0.mk (Kd.N_elder' (kN HO321.out) (by first | exact Kd.N_base ho0 | exact Kd.N_base (Kd.R_N ho0) | exact Kd.N_base (Kd.S_N ho0)) hb)
          have n3_ := Aside0.mk (Kd.N_elder' (kN HO327.out) (by first | exact Kd.N_base ho0 | exact Kd.N_base (Kd.R_N ho0) | exact Kd.N_base (Kd.S_N ho0)) hb)
          have n4_ := Aside0.mk (Kd.N_lower (Kd.N_mono (ok' := fun k_ => (w.heap.size ≤ k_) ∧ some k_ ≠ (u3 : Value).ownBlock ∧ some k_ ≠ (.slice Ao31 x6_2.length co31 : Value).ownBlock ∧ some k_ ≠ (v320 : Value).ownBlock ∧ some k_ ≠ (v326 : Value).ownBlock ∧ k_ ≠ gb281 ∧ k_ ≠ gb282 ∧ k_ ≠ gb305) (Kd.R_N (Kd.R_bound ho0)) (fun k_ hk_ => ⟨(Nat.le_trans (below_size bb) hk_.2.1), (Kd.fresh' (Kd.N_lt (kN HO_3.out)) k_ hk_.2.1), (Kd.fresh' (Kd.N_lt (kN HO_6.out)) k_ hk_.2.1), (Kd.fresh' (Kd.N_lt (kN HO321.out)) k_ hk_.2.1), (Kd.fresh' (Kd.N_lt (kN HO327.out)) k_ hk_.2.1), (Kd.freshB (rb BK281.out) k_ hk_.2.1), (Kd.freshB (g := gb282) (o := .cells #[.int .i64 0, .int .i64 0, .string (⟨#[]⟩ : ByteArray), .slice none 0 0] 54 (0, 0)) (rb BK282.out) k_ hk_.2.1), (Kd.freshB (rb BK305.out) k_ hk_.2.1)⟩)) (below_size bb))
          have n5_ := Aside0.mk (blk_below (rb BK281.out) hb)
          have n6_ := Aside0.mk (blk_below (g := gb282) (o := .cells #[.int .i64 0, .int .i64 0, .string (⟨#[]⟩ : ByteArray), .slice none 0 0] 54 (0, 0)) (rb BK282.out) hb)
          have n7_ := Aside0.mk (blk_below (rb BK305.out) hb)
          have n8_ := Aside0.mk (below_step bb hb)
          clear HO_3
          clear HO_6
          clear HO321
          clear HO327
          clear BK281
          clear BK282
          clear BK305
          clear HB
          have HO_3 := n0_
          have HO_6 := n1_
          have HO321 := n2_
          have HO327 := n3_
          have HO333 := n4_
          have BK281 := n5_
          have BK282 := n6_
          have BK305 := n7_
          have HB := n8_
          clear n0_ n1_ n2_ n3_ n4_ n5_ n6_ n7_ n8_
          (try clear hb)
          (try clear hb2)
          (try clear hk)
          (try clear hi)
          (try clear ho0)
          refine hK.out _ _ ⟨(blk_cell BK305.out 0).trans rfl, (blk_cell BK305.out 1).trans rfl, (blk_cell BK305.out 2).trans rfl, (blk_cell BK305.out 3).trans rfl, (blk_cell BK305.out 4).trans rfl, (blk_cell BK305.out 5).trans rfl⟩ (fun hHeld => ?_)
          clear hK K
          refine norm_ (a' := ?_) ?_ ?_
          rotate_left
          ·show Act.put _ (some 37) _ = _
           simp only [Act.put, List.setIfInBounds_toArray, List.set_cons_zero, List.set_cons_succ, i64_w, i32_w]
           rfl
          refine one_ (i := 11) (N := some 40) #[true, true, true, true, true, true, true, true, true, true, true, true, true, true, false, true, true, false, false, false, false, false, false] rfl rfl (one_of HT_.out (by kernel_rfl)) (by decide) (fun K hK => ?_)
          refine goes_ Try.func48 (by kernel_rfl) rfl #[.int .i64 ((rd_T48 l0_1 x12_1).f3)] (by rfl) rfl rfl ag ?_
          with_reducible refine (pack_Num.calls ((rd_T48 l0_1 x12_1).f3) t334 t335 t336 t337 _ A24.out).mono ?_
          rintro e w34 ⟨v338, rfl, ho0, hb⟩
          refine ⟨_, rfl, ?_⟩
          have n0_ := Aside0.mk (Kd.N_elder' (kN HO_3.out) (by first | exact Kd.N_base ho0 | exact Kd.N_base (Kd.R_N ho0) | exact Kd.N_base (Kd.S_N ho0)) hb)
          have n1_ := Aside0.mk (Kd.N_elder' (kN HO_6.out) (by first | exact Kd.N_base ho0 | exact Kd.N_base (Kd.R_N ho0) | exact Kd.N_base (Kd.S_N ho0)) hb)
          have n2_ := Aside0.mk (Kd.N_elder' (kN HO321.out) (by first | exact Kd.N_base ho0 | exact Kd.N_base (Kd.R_N ho0) | exact Kd.N_base (Kd.S_N ho0)) hb)
          have n3_ := Aside0.mk (Kd.N_elder' (kN HO327.out) (by first | exact Kd.N_base ho0 | exact Kd.N_base (Kd.R_N ho0) | exact Kd.N_base (Kd.S_N ho0)) hb)
          have n4_ := Aside0.mk (Kd.N_elder' (kN HO333.out) (by first | exact Kd.N_base ho0 | exact Kd.N_base (Kd.R_N ho0) | exact Kd.N_base (Kd.S_N ho0)) hb)
          have n5_ := Aside0.mk (Kd.N_lower (Kd.N_mono (ok' := fun k_ => (w.heap.size ≤ k_) ∧ some k_ ≠ (u3 : Value).ownBlock ∧ some k_ ≠ (.slice Ao31 x6_2.length co31 : Value).ownBlock ∧ some k_ ≠ (v320 : Value).ownBlock ∧ some k_ ≠ (v326 : Value).ownBlock ∧ some k_ ≠ (v332 : Value).ownBlock ∧ k_ ≠ gb281 ∧ k_ ≠ gb282 ∧ k_ ≠ gb305) (Kd.R_N (Kd.R_bound ho0)) (fun k_ hk_ => ⟨(Nat.le_trans (below_size bb) hk_.2.1), (Kd.fresh' (Kd.N_lt (kN HO_3.out)) k_ hk_.2.1), (Kd.fresh' (Kd.N_lt (kN HO_6.out)) k_ hk_.2.1), (Kd.fresh' (Kd.N_lt (kN HO321.out)) k_ hk_.2.1), (Kd.fresh' (Kd.N_lt (kN HO327.out)) k_ hk_.2.1), (Kd.fresh' (Kd.N_lt (kN HO333.out)) k_ hk_.2.1), (Kd.freshB (rb BK281.out) k_ hk_.2.1), (Kd.freshB (g := gb282) (o := .cells #[.int .i64 0, .int .i64 0, .string (⟨#[]⟩ : ByteArray), .slice none 0 0] 54 (0, 0)) (rb BK282.out) k_ hk_.2.1), (Kd.freshB (rb BK305.out) k_ hk_.2.1)⟩)) (below_size bb))
          have n6_ := Aside0.mk (blk_below (rb BK281.out) hb)
          have n7_ := Aside0.mk (blk_below (g := gb282) (o := .cells #[.int .i64 0, .int .i64 0, .string (⟨#[]⟩ : ByteArray), .slice none 0 0] 54 (0, 0)) (rb BK282.out) hb)
          have n8_ := Aside0.mk (blk_below (rb BK305.out) hb)
          have n9_ := Aside0.mk (below_step bb hb)
          clear HO_3
          clear HO_6
          clear HO321
          clear HO327
          clear HO333
          clear BK281
          clear BK282
          clear BK305
          clear HB
          have HO_3 := n0_
          have HO_6 := n1_
          have HO321 := n2_
          have HO327 := n3_
          have HO333 := n4_
          have HO339 := n5_
          have BK281 := n6_
          have BK282 := n7_
          have BK305 := n8_
          have HB := n9_
          clear n0_ n1_ n2_ n3_ n4_ n5_ n6_ n7_ n8_ n9_
          (try clear hb)
          (try clear hb2)
          (try clear hk)
          (try clear hi)
          (try clear ho0)
          refine hK.out _ _ ⟨(blk_cell BK305.out 0).trans rfl, (blk_cell BK305.out 1).trans rfl, (blk_cell BK305.out 2).trans rfl, (blk_cell BK305.out 3).trans rfl, (blk_cell BK305.out 4).trans rfl, (blk_cell BK305.out 5).trans rfl⟩ (fun hHeld => ?_)
          clear hK K
          refine norm_ (a' := ?_) ?_ ?_
          rotate_left
          ·show Act.put _ (some 40) _ = _
           simp only [Act.put, List.setIfInBounds_toArray, List.set_cons_zero, List.set_cons_succ, i64_w, i32_w]
           rfl
          refine one_ (i := 14) (N := some 43) #[true, true, true, true, true, true, true, true, true, true, true, true, true, true, true, true, true, false, false, false, false, false, false] rfl rfl (one_of HT_.out (by kernel_rfl)) (by decide) (fun K hK => ?_)
          refine goes_ Try.func48 (by kernel_rfl) rfl #[.int .i64 ((rd_T48 l0_1 x12_1).f4)] (by rfl) rfl rfl ag ?_
          with_reducible refine (pack_Num.calls ((rd_T48 l0_1 x12_1).f4) t340 t341 t342 t343 _ A25.out).mono ?_
          rintro e w35 ⟨v344, rfl, ho0, hb⟩
          refine ⟨_, rfl, ?_⟩
          have n0_ := Aside0.mk (Kd.N_elder' (kN HO_3.out) (by first | exact Kd.N_base ho0 | exact Kd.N_base (Kd.R_N ho0) | exact Kd.N_base (Kd.S_N ho0)) hb)
          have n1_ := Aside0.mk (Kd.N_elder' (kN HO_6.out) (by first | exact Kd.N_base ho0 | exact Kd.N_base (Kd.R_N ho0) | exact Kd.N_base (Kd.S_N ho0)) hb)
          have n2_ := Aside0.mk (Kd.N_elder' (kN HO321.out) (by first | exact Kd.N_base ho0 | exact Kd.N_base (Kd.R_N ho0) | exact Kd.N_base (Kd.S_N ho0)) hb)
          have n3_ := Aside0.mk (Kd.N_elder' (kN HO327.out) (by first | exact Kd.N_base ho0 | exact Kd.N_base (Kd.R_N ho0) | exact Kd.N_base (Kd.S_N ho0)) hb)
          have n4_ := Aside0.mk (Kd.N_elder' (kN HO333.out) (by first | exact Kd.N_base ho0 | exact Kd.N_base (Kd.R_N ho0) | exact Kd.N_base (Kd.S_N ho0)) hb)
          have n5_ := Aside0.mk (Kd.N_elder' (kN HO339.out) (by first | exact Kd.N_base ho0 | exact Kd.N_base (Kd.R_N ho0) | exact Kd.N_base (Kd.S_N ho0)) hb)
          have n6_ := Aside0.mk (Kd.N_lower (Kd.N_mono (ok' := fun k_ => (w.heap.size ≤ k_) ∧ some k_ ≠ (u3 : Value).ownBlock ∧ some k_ ≠ (.slice Ao31 x6_2.length co31 : Value).ownBlock ∧ some k_ ≠ (v320 : Value).ownBlock ∧ some k_ ≠ (v326 : Value).ownBlock ∧ some k_ ≠ (v332 : Value).ownBlock ∧ some k_ ≠ (v338 : Value).ownBlock ∧ k_ ≠ gb281 ∧ k_ ≠ gb282 ∧ k_ ≠ gb305) (Kd.R_N (Kd.R_bound ho0)) (fun k_ hk_ => ⟨(Nat.le_trans (below_size bb) hk_.2.1), (Kd.fresh' (Kd.N_lt (kN HO_3.out)) k_ hk_.2.1), (Kd.fresh' (Kd.N_lt (kN HO_6.out)) k_ hk_.2.1), (Kd.fresh' (Kd.N_lt (kN HO321.out)) k_ hk_.2.1), (Kd.fresh' (Kd.N_lt (kN HO327.out)) k_ hk_.2.1), (Kd.fresh' (Kd.N_lt (kN HO333.out)) k_ hk_.2.1), (Kd.fresh' (Kd.N_lt (kN HO339.out)) k_ hk_.2.1), (Kd.freshB (rb BK281.out) k_ hk_.2.1), (Kd.freshB (g := gb282) (o := .cells #[.int .i64 0, .int .i64 0, .string (⟨#[]⟩ : ByteArray), .slice none 0 0] 54 (0, 0)) (rb BK282.out) k_ hk_.2.1), (Kd.freshB (rb BK305.out) k_ hk_.2.1)⟩)) (below_size bb))
          have n7_ := Aside0.mk (blk_below (rb BK281.out) hb)
          have n8_ := Aside0.mk (blk_below (g := gb282) (o := .cells #[.int .i64 0, .int .i64 0, .string (⟨#[]⟩ : ByteArray), .slice none 0 0] 54 (0, 0)) (rb BK282.out) hb)
          have n9_ := Aside0.mk (blk_below (rb BK305.out) hb)
          have n10_ := Aside0.mk (below_step bb hb)
          clear HO_3
          clear HO_6
          clear HO321
          clear HO327
          clear HO333
          clear HO339
          clear BK281
          clear BK282
          clear BK305
          clear HB
          have HO_3 := n0_
          have HO_6 := n1_
          have HO321 := n2_
          have HO327 := n3_
          have HO333 := n4_
          have HO339 := n5_
          have HO345 := n6_
          have BK281 := n7_
          have BK282 := n8_
          have BK305 := n9_
          have HB := n10_
          clear n0_ n1_ n2_ n3_ n4_ n5_ n6_ n7_ n8_ n9_ n10_
          (try clear hb)
          (try clear hb2)
          (try clear hk)
          (try clear hi)
          (try clear ho0)
          refine hK.out _ _ ⟨(blk_cell BK305.out 0).trans rfl, (blk_cell BK305.out 1).trans rfl, (blk_cell BK305.out 2).trans rfl, (blk_cell BK305.out 3).trans rfl, (blk_cell BK305.out 4).trans rfl, (blk_cell BK305.out 5).trans rfl⟩ (fun hHeld => ?_)
          clear hK K
          refine norm_ (a' := ?_) ?_ ?_
          rotate_left
          ·show Act.put _ (some 43) _ = _
           simp only [Act.put, List.setIfInBounds_toArray, List.set_cons_zero, List.set_cons_succ, i64_w, i32_w]
           rfl
          refine one_ (i := 17) (N := some 46) #[true, true, true, true, true, true, true, true, true, true, true, true, true, true, true, true, true, true, false, false, false, false, false] rfl rfl (one_of HT_.out (by kernel_rfl)) (by decide) (fun K hK => ?_)
          refine goes_ Try.func64 (by kernel_rfl) rfl #[.string ((rd_T48 l0_1 x12_1).f5)] (by rfl) rfl rfl ag ?_
          with_reducible refine (pack_Str.calls ((rd_T48 l0_1 x12_1).f5) t346 t347 t348 t349 _ A26.out).mono ?_
          rintro e w36 ⟨v350, rfl, ho0, hb⟩
          refine ⟨_, rfl, ?_⟩
          have n0_ := Aside0.mk (Kd.N_elder' (kN HO_3.out) (by first | exact Kd.N_base ho0 | exact Kd.N_base (Kd.R_N ho0) | exact Kd.N_base (Kd.S_N ho0)) hb)
          have n1_ := Aside0.mk (Kd.N_elder' (kN HO_6.out) (by first | exact Kd.N_base ho0 | exact Kd.N_base (Kd.R_N ho0) | exact Kd.N_base (Kd.S_N ho0)) hb)
          have n2_ := Aside0.mk (Kd.N_elder' (kN HO321.out) (by first | exact Kd.N_base ho0 | exact Kd.N_base (Kd.R_N ho0) | exact Kd.N_base (Kd.S_N ho0)) hb)
          have n3_ := Aside0.mk (Kd.N_elder' (kN HO327.out) (by first | exact Kd.N_base ho0 | exact Kd.N_base (Kd.R_N ho0) | exact Kd.N_base (Kd.S_N ho0)) hb)
          have n4_ := Aside0.mk (Kd.N_elder' (kN HO333.out) (by first | exact Kd.N_base ho0 | exact Kd.N_base (Kd.R_N ho0) | exact Kd.N_base (Kd.S_N ho0)) hb)
          have n5_ := Aside0.mk (Kd.N_elder' (kN HO339.out) (by first | exact Kd.N_base ho0 | exact Kd.N_base (Kd.R_N ho0) | exact Kd.N_base (Kd.S_N ho0)) hb)
          have n6_ := Aside0.mk (Kd.N_elder' (kN HO345.out) (by first | exact Kd.N_base ho0 | exact Kd.N_base (Kd.R_N ho0) | exact Kd.N_base (Kd.S_N ho0)) hb)
          have n7_ := Aside0.mk (Kd.N_lower (Kd.N_mono (ok' := fun k_ => (w.heap.size ≤ k_) ∧ some k_ ≠ (u3 : Value).ownBlock ∧ some k_ ≠ (.slice Ao31 x6_2.length co31 : Value).ownBlock ∧ some k_ ≠ (v320 : Value).ownBlock ∧ some k_ ≠ (v326 : Value).ownBlock ∧ some k_ ≠ (v332 : Value).ownBlock ∧ some k_ ≠ (v338 : Value).ownBlock ∧ some k_ ≠ (v344 : Value).ownBlock ∧ k_ ≠ gb281 ∧ k_ ≠ gb282 ∧ k_ ≠ gb305) (Kd.R_N (Kd.R_bound ho0)) (fun k_ hk_ => ⟨(Nat.le_trans (below_size bb) hk_.2.1), (Kd.fresh' (Kd.N_lt (kN HO_3.out)) k_ hk_.2.1), (Kd.fresh' (Kd.N_lt (kN HO_6.out)) k_ hk_.2.1), (Kd.fresh' (Kd.N_lt (kN HO321.out)) k_ hk_.2.1), (Kd.fresh' (Kd.N_lt (kN HO327.out)) k_ hk_.2.1), (Kd.fresh' (Kd.N_lt (kN HO333.out)) k_ hk_.2.1), (Kd.fresh' (Kd.N_lt (kN HO339.out)) k_ hk_.2.1), (Kd.fresh' (Kd.N_lt (kN HO345.out)) k_ hk_.2.1), (Kd.freshB (rb BK281.out) k_ hk_.2.1), (Kd.freshB (g := gb282) (o := .cells #[.int .i64 0, .int .i64 0, .string (⟨#[]⟩ : ByteArray), .slice none 0 0] 54 (0, 0)) (rb BK282.out) k_ hk_.2.1), (Kd.freshB (rb BK305.out) k_ hk_.2.1)⟩)) (below_size bb))
          have n8_ := Aside0.mk (blk_below (rb BK281.out) hb)
          have n9_ := Aside0.mk (blk_below (g := gb282) (o := .cells #[.int .i64 0, .int .i64 0, .string (⟨#[]⟩ : ByteArray), .slice none 0 0] 54 (0, 0)) (rb BK282.out) hb)
          have n10_ := Aside0.mk (blk_below (rb BK305.out) hb)
          have n11_ := Aside0.mk (below_step bb hb)
          clear HO_3
          clear HO_6
          clear HO321
          clear HO327
          clear HO333
          clear HO339
          clear HO345
          clear BK281
          clear BK282
          clear BK305
          clear HB
          have HO_3 := n0_
          have HO_6 := n1_
          have HO321 := n2_
          have HO327 := n3_
          have HO333 := n4_
          have HO339 := n5_
          have HO345 := n6_
          have HO351 := n7_
          have BK281 := n8_
          have BK282 := n9_
          have BK305 := n10_
          have HB := n11_
          clear n0_ n1_ n2_ n3_ n4_ n5_ n6_ n7_ n8_ n9_ n10_ n11_
          (try clear hb)
          (try clear hb2)
          (try clear hk)
          (try clear hi)
          (try clear ho0)
          obtain ⟨Ao37, co37, eo37⟩ := Kd.N_slice HO321.out
          (first | subst eo37 | (injection eo37 with f1_ f2_ f3_; have f4_ := f1_.symm; have f5_ := f3_.symm; clear f1_ f2_ f3_; subst f4_; subst f5_))
          obtain ⟨Ao38, co38, eo38⟩ := Kd.N_slice HO327.out
          (first | subst eo38 | (injection eo38 with f1_ f2_ f3_; have f4_ := f1_.symm; have f5_ := f3_.symm; clear f1_ f2_ f3_; subst f4_; subst f5_))
          obtain ⟨Ao39, co39, eo39⟩ := Kd.N_slice HO333.out
          (first | subst eo39 | (injection eo39 with f1_ f2_ f3_; have f4_ := f1_.symm; have f5_ := f3_.symm; clear f1_ f2_ f3_; subst f4_; subst f5_))
          obtain ⟨Ao40, co40, eo40⟩ := Kd.N_slice HO339.out
          (first | subst eo40 | (injection eo40 with f1_ f2_ f3_; have f4_ := f1_.symm; have f5_ := f3_.symm; clear f1_ f2_ f3_; subst f4_; subst f5_))
          obtain ⟨Ao41, co41, eo41⟩ := Kd.N_slice HO345.out
          (first | subst eo41 | (injection eo41 with f1_ f2_ f3_; have f4_ := f1_.symm; have f5_ := f3_.symm; clear f1_ f2_ f3_; subst f4_; subst f5_))
          obtain ⟨Ao42, co42, eo42⟩ := Kd.N_slice HO351.out
          (first | subst eo42 | (injection eo42 with f1_ f2_ f3_; have f4_ := f1_.symm; have f5_ := f3_.symm; clear f1_ f2_ f3_; subst f4_; subst f5_))
          refine hK.out _ _ ⟨(blk_cell BK305.out 0).trans rfl, (blk_cell BK305.out 1).trans rfl, (blk_cell BK305.out 2).trans rfl, (blk_cell BK305.out 3).trans rfl, (blk_cell BK305.out 4).trans rfl, (blk_cell BK305.out 5).trans rfl⟩ (fun hHeld => ?_)
          clear hK K
          refine norm_ (a' := ?_) ?_ ?_
          rotate_left
          ·show Act.put _ (some 46) _ = _
           simp only [Act.put, List.setIfInBounds_toArray, List.set_cons_zero, List.set_cons_succ, i64_w, i32_w]
           rfl
          refine one_ (i := 18) (N := some 47) #[true, true, true, true, true, true, true, true, true, true, true, true, true, true, true, true, true, true, true, false, false, false, false] rfl rfl (one_of HT_.out (by kernel_rfl)) (by decide) (fun K hK => ?_)
          refine Kd.N_lit_step k54 _ 54 ?hg (N' := 47) ?hd (xs := ([(⟨t316, t317, t318, t319⟩ : S54), (⟨t322, t323, t324, t325⟩ : S54), (⟨t328, t329, t330, t331⟩ : S54), (⟨t334, t335, t336, t337⟩ : S54), (⟨t340, t341, t342, t343⟩ : S54), (⟨t346, t347, t348, t349⟩ : S54)] : List (S54))) (inner := [.int .i64 t316, .int .i64 t317, .string t318, .slice Ao37 t319.length co37, .int .i64 t322, .int .i64 t323, .string t324, .slice Ao38 t325.length co38, .int .i64 t328, .int .i64 t329, .string t330, .slice Ao39 t331.length co39, .int .i64 t334, .int .i64 t335, .string t336, .slice Ao40 t337.length co40, .int .i64 t340, .int .i64 t341, .string t342, .slice Ao41 t343.length co41, .int .i64 t346, .int .i64 t347, .string t348, .slice Ao42 t349.length co42]) (ok := (fun k_ => (w.heap.size ≤ k_) ∧ some k_ ≠ (u3 : Value).ownBlock ∧ k_ ≠ gb281 ∧ k_ ≠ gb282 ∧ k_ ≠ gb305)) (okp := (fun k_ => (w.heap.size ≤ k_) ∧ some k_ ≠ (u3 : Value).ownBlock ∧ k_ ≠ gb281 ∧ k_ ≠ gb282 ∧ k_ ≠ gb305)) ?hr ?hp (fun _ hk => hk) ((show ∀ k_, w36.heap.size ≤ k_ → (fun k_ => (w.heap.size ≤ k_) ∧ some k_ ≠ (u3 : Value).ownBlock ∧ k_ ≠ gb281 ∧ k_ ≠ gb282 ∧ k_ ≠ gb305) k_ from fun k_ hk => ⟨(Nat.le_trans (below_size bb) hk), Kd.fresh' (Kd.N_lt (kN HO_3.out)) k_ hk, Kd.freshB (rb BK281.out) k_ hk, Kd.freshB (g := gb282) (o := .cells #[.int .i64 0, .int .i64 0, .string (⟨#[]⟩ : ByteArray), .slice none 0 0] 54 (0, 0)) (rb BK282.out) k_ hk, Kd.freshB (rb BK305.out) k_ hk⟩) _ (Nat.le_refl _)) (Below.refl _ _) (Nat.le_refl _) (by simp) ?_; (case hd => rfl); (case hg => rfl); (case hr => first | (go_simp; done) | (go_simp; rfl)); (case hp => exact (Reps.c4 (show Kd.FK k54 _ _ (⟨t316, t317, t318, t319⟩ : S54) [.int .i64 t316, .int .i64 t317, .string t318, .slice Ao37 t319.length co37] from (k54_mkF _ _ (⟨t316, t317, t318, t319⟩ : S54) (Kd.N_reads' (Kd.N_mono (ok' := (fun k_ => (w.heap.size ≤ k_) ∧ some k_ ≠ (u3 : Value).ownBlock ∧ k_ ≠ gb281 ∧ k_ ≠ gb282 ∧ k_ ≠ gb305)) (HO321.out) (fun k_ hk => ⟨hk.1.1.1.1.1.1, ⟨hk.1.1.1.1.1.2.1, ⟨hk.1.1.1.1.1.2.2.2.1, ⟨hk.1.1.1.1.1.2.2.2.2.1, hk.1.1.1.1.1.2.2.2.2.2⟩⟩⟩⟩))).2.1 (Kd.N_F (Kd.N_mono (ok' := (fun k_ => (w.heap.size ≤ k_) ∧ some k_ ≠ (u3 : Value).ownBlock ∧ k_ ≠ gb281 ∧ k_ ≠ gb282 ∧ k_ ≠ gb305)) (HO321.out) (fun k_ hk => ⟨hk.1.1.1.1.1.1, ⟨hk.1.1.1.1.1.2.1, ⟨hk.1.1.1.1.1.2.2.2.1, ⟨hk.1.1.1.1.1.2.2.2.2.1, hk.1.1.1.1.1.2.2.2.2.2⟩⟩⟩⟩))))) (Reps.c4 (show Kd.FK k54 _ _ (⟨t322, t323, t324, t325⟩ : S54) [.int .i64 t322, .int .i64 t323, .string t324, .slice Ao38 t325.length co38] from (k54_mkF _ _ (⟨t322, t323, t324, t325⟩ : S54) (Kd.N_reads' (Kd.N_mono (ok' := (fun k_ => (w.heap.size ≤ k_) ∧ some k_ ≠ (u3 : Value).ownBlock ∧ k_ ≠ gb281 ∧ k_ ≠ gb282 ∧ k_ ≠ gb305)) (HO327.out) (fun k_ hk => ⟨hk.1.1.1.1.1, ⟨hk.1.1.1.1.2.1, ⟨hk.1.1.1.1.2.2.2.1, ⟨hk.1.1.1.1.2.2.2.2.1, hk.1.1.1.1.2.2.2.2.2⟩⟩⟩⟩))).2.1 (Kd.N_F (Kd.N_mono (ok' := (fun k_ => (w.heap.size ≤ k_) ∧ some k_ ≠ (u3 : Value).ownBlock ∧ k_ ≠ gb281 ∧ k_ ≠ gb282 ∧ k_ ≠ gb305)) (HO327.out) (fun k_ hk => ⟨hk.1.1.1.1.1, ⟨hk.1.1.1.1.2.1, ⟨hk.1.1.1.1.2.2.2.1, ⟨hk.1.1.1.1.2.2.2.2.1, hk.1.1.1.1.2.2.2.2.2⟩⟩⟩⟩))))) (Reps.c4 (show Kd.FK k54 _ _ (⟨t328, t329, t330, t331⟩ : S54) [.int .i64 t328, .int .i64 t329, .string t330, .slice Ao39 t331.length co39] from (k54_mkF _ _ (⟨t328, t329, t330, t331⟩ : S54) (Kd.N_reads' (Kd.N_mono (ok' := (fun k_ => (w.heap.size ≤ k_) ∧ some k_ ≠ (u3 : Value).ownBlock ∧ k_ ≠ gb281 ∧ k_ ≠ gb282 ∧ k_ ≠ gb305)) (HO333.out) (fun k_ hk => ⟨hk.1.1.1.1, ⟨hk.1.1.1.2.1, ⟨hk.1.1.1.2.2.2.2.2.1, ⟨hk.1.1.1.2.2.2.2.2.2.1, hk.1.1.1.2.2.2.2.2.2.2⟩⟩⟩⟩))).2.1 (Kd.N_F (Kd.N_mono (ok' := (fun k_ => (w.heap.size ≤ k_) ∧ some k_ ≠ (u3 : Value).ownBlock ∧ k_ ≠ gb281 ∧ k_ ≠ gb282 ∧ k_ ≠ gb305)) (HO333.out) (fun k_ hk => ⟨hk.1.1.1.1, ⟨hk.1.1.1.2.1, ⟨hk.1.1.1.2.2.2.2.2.1, ⟨hk.1.1.1.2.2.2.2.2.2.1, hk.1.1.1.2.2.2.2.2.2.2⟩⟩⟩⟩))))) (Reps.c4 (show Kd.FK k54 _ _ (⟨t334, t335, t336, t337⟩ : S54) [.int .i64 t334, .int .i64 t335, .string t336, .slice Ao40 t337.length co40] from (k54_mkF _ _ (⟨t334, t335, t336, t337⟩ : S54) (Kd.N_reads' (Kd.N_mono (ok' := (fun k_ => (w.heap.size ≤ k_) ∧ some k_ ≠ (u3 : Value).ownBlock ∧ k_ ≠ gb281 ∧ k_ ≠ gb282 ∧ k_ ≠ gb305)) (HO339.out) (fun k_ hk => ⟨hk.1.1.1, ⟨hk.1.1.2.1, ⟨hk.1.1.2.2.2.2.2.2.1, ⟨hk.1.1.2.2.2.2.2.2.2.1, hk.1.1.2.2.2.2.2.2.2.2⟩⟩⟩⟩))).2.1 (Kd.N_F (Kd.N_mono (ok' := (fun k_ => (w.heap.size ≤ k_) ∧ some k_ ≠ (u3 : Value).ownBlock ∧ k_ ≠ gb281 ∧ k_ ≠ gb282 ∧ k_ ≠ gb305)) (HO339.out) (fun k_ hk => ⟨hk.1.1.1, ⟨hk.1.1.2.1, ⟨hk.1.1.2.2.2.2.2.2.1, ⟨hk.1.1.2.2.2.2.2.2.2.1, hk.1.1.2.2.2.2.2.2.2.2⟩⟩⟩⟩))))) (Reps.c4 (show Kd.FK k54 _ _ (⟨t340, t341, t342, t343⟩ : S54) [.int .i64 t340, .int .i64 t341, .string t342, .slice Ao41 t343.length co41] from (k54_mkF _ _ (⟨t340, t341, t342, t343⟩ : S54) (Kd.N_reads' (Kd.N_mono (ok' := (fun k_ => (w.heap.size ≤ k_) ∧ some k_ ≠ (u3 : Value).ownBlock ∧ k_ ≠ gb281 ∧ k_ ≠ gb282 ∧ k_ ≠ gb305)) (HO345.out) (fun k_ hk => ⟨hk.1.1, ⟨hk.1.2.1, ⟨hk.1.2.2.2.2.2.2.2.1, ⟨hk.1.2.2.2.2.2.2.2.2.1, hk.1.2.2.2.2.2.2.2.2.2⟩⟩⟩⟩))).2.1 (Kd.N_F (Kd.N_mono (ok' := (fun k_ => (w.heap.size ≤ k_) ∧ some k_ ≠ (u3 : Value).ownBlock ∧ k_ ≠ gb281 ∧ k_ ≠ gb282 ∧ k_ ≠ gb305)) (HO345.out) (fun k_ hk => ⟨hk.1.1, ⟨hk.1.2.1, ⟨hk.1.2.2.2.2.2.2.2.1, ⟨hk.1.2.2.2.2.2.2.2.2.1, hk.1.2.2.2.2.2.2.2.2.2⟩⟩⟩⟩))))) (Reps.c4 (show Kd.FK k54 _ _ (⟨t346, t347, t348, t349⟩ : S54) [.int .i64 t346, .int .i64 t347, .string t348, .slice Ao42 t349.length co42] from (k54_mkF _ _ (⟨t346, t347, t348, t349⟩ : S54) (Kd.N_reads' (Kd.N_mono (ok' := (fun k_ => (w.heap.size ≤ k_) ∧ some k_ ≠ (u3 : Value).ownBlock ∧ k_ ≠ gb281 ∧ k_ ≠ gb282 ∧ k_ ≠ gb305)) (HO351.out) (fun k_ hk => ⟨hk.1, ⟨hk.2.1, ⟨hk.2.2.2.2.2.2.2.2.1, ⟨hk.2.2.2.2.2.2.2.2.2.1, hk.2.2.2.2.2.2.2.2.2.2⟩⟩⟩⟩))).2.1 (Kd.N_F (Kd.N_mono (ok' := (fun k_ => (w.heap.size ≤ k_) ∧ some k_ ≠ (u3 : Value).ownBlock ∧ k_ ≠ gb281 ∧ k_ ≠ gb282 ∧ k_ ≠ gb305)) (HO351.out) (fun k_ hk => ⟨hk.1, ⟨hk.2.1, ⟨hk.2.2.2.2.2.2.2.2.1, ⟨hk.2.2.2.2.2.2.2.2.2.1, hk.2.2.2.2.2.2.2.2.2.2⟩⟩⟩⟩))))) (Reps.none _ _))))))))
          intro v353 w43 ho44 hb hg_ hnew_
          clear hg_ hnew_
          (first | rw [← Ny352.out] at ho44 | (simp only [Int.reduceToNat] at ho44; rw [← Ny352.out] at ho44))
          have n0_ := Aside0.mk (Kd.N_elder' (kN HO_3.out) (by first | exact Kd.N_base ho44 | exact Kd.N_base (Kd.R_N ho44) | exact Kd.N_base (Kd.S_N ho44)) hb)
          have n1_ := Aside0.mk (Kd.N_elder' (kN HO_6.out) (by first | exact Kd.N_base ho44 | exact Kd.N_base (Kd.R_N ho44) | exact Kd.N_base (Kd.S_N ho44)) hb)
          have n2_ := Aside0.mk (Kd.N_lower ho44 (below_size bb))
          have n3_ := Aside0.mk (blk_below (rb BK281.out) hb)
          have n4_ := Aside0.mk (blk_below (g := gb282) (o := .cells #[.int .i64 0, .int .i64 0, .string (⟨#[]⟩ : ByteArray), .slice none 0 0] 54 (0, 0)) (rb BK282.out) hb)
          have n5_ := Aside0.mk (blk_below (rb BK305.out) hb)
          have n6_ := Aside0.mk (below_step bb hb)
          clear HO_3
          clear HO_6
          clear BK281
          clear BK282
          clear BK305
          clear HB
          clear HO321
          clear HO327
          clear HO333
          clear HO339
          clear HO345
          clear HO351
          have HO_3 := n0_
          have HO_6 := n1_
          have HO354 := n2_
          have BK281 := n3_
          have BK282 := n4_
          have BK305 := n5_
          have HB := n6_
          clear n0_ n1_ n2_ n3_ n4_ n5_ n6_
          clear hb ho44
          obtain ⟨Ao45, co45, eo45⟩ := Kd.N_slice HO354.out
          (first | subst eo45 | (injection eo45 with f1_ f2_ f3_; have f4_ := f1_.symm; have f5_ := f3_.symm; clear f1_ f2_ f3_; subst f4_; subst f5_))
          refine hK.out _ _ ⟨(blk_cell BK305.out 0).trans rfl, (blk_cell BK305.out 1).trans rfl, (blk_cell BK305.out 2).trans rfl, (blk_cell BK305.out 3).trans rfl, (blk_cell BK305.out 4).trans rfl, (blk_cell BK305.out 5).trans rfl⟩ (fun hHeld => ?_)
          clear hK K
          refine norm_ (a' := ?_) ?_ ?_
          rotate_left
          ·show Act.put _ (some 47) _ = _
           simp only [Act.put, List.setIfInBounds_toArray, List.set_cons_zero, List.set_cons_succ, i64_w, i32_w]
           rfl
          refine one_ (i := 19) (N := some 48) #[true, true, true, true, true, true, true, true, true, true, true, true, true, true, true, true, true, true, true, true, false, false, false] rfl rfl (one_of HT_.out (by kernel_rfl)) (by decide) (fun K hK => ?_)
          refine goes_ Try.func40 (by kernel_rfl) rfl #[.slice Ao45 y352.length co45] (by rfl) rfl rfl ag ?_
          with_reducible refine (pack_All.calls (fun k_ => ((w.heap.size ≤ k_) ∧ (some k_ ≠ (u3 : Value).ownBlock ∧ (k_ ≠ gb281 ∧ (k_ ≠ gb282 ∧ k_ ≠ gb305))))) _ _ y352 t355 t356 t357 t358 _ ?side1 A27.out).mono ?_
          (case side1 => exact Kd.N_V (HO354.out))
          rintro e w46 ⟨v359, rfl, ho0, hb⟩
          refine ⟨_, rfl, ?_⟩
          have n0_ := Aside0.mk (Kd.N_elder' (kN HO_3.out) (by first | exact Kd.N_base ho0 | exact Kd.N_base (Kd.R_N ho0) | exact Kd.N_base (Kd.S_N ho0)) hb)
          have n1_ := Aside0.mk (Kd.N_elder' (kN HO_6.out) (by first | exact Kd.N_base ho0 | exact Kd.N_base (Kd.R_N ho0) | exact Kd.N_base (Kd.S_N ho0)) hb)
          have n2_ := Aside0.mk (Kd.N_elder' (kN HO354.out) (by first | exact Kd.N_base ho0 | exact Kd.N_base (Kd.R_N ho0) | exact Kd.N_base (Kd.S_N ho0)) hb)
          have n3_ := Aside0.mk (Kd.N_lower (Kd.N_mono (ok' := fun k_ => (w.heap.size ≤ k_) ∧ some k_ ≠ (u3 : Value).ownBlock ∧ k_ ≠ gb281 ∧ k_ ≠ gb282 ∧ k_ ≠ gb305) ho0 (fun k_ hk_ => ⟨Or.elim hk_ (fun hs_ => hs_.1) (fun hn_ => (Nat.le_trans (below_size bb) hn_)), Or.elim hk_ (fun hs_ => hs_.2.1) (fun hn_ => (Kd.fresh' (Kd.N_lt (kN HO_3.out)) k_ hn_)), Or.elim hk_ (fun hs_ => hs_.2.2.1) (fun hn_ => (Kd.freshB (rb BK281.out) k_ hn_)), Or.elim hk_ (fun hs_ => hs_.2.2.2.1) (fun hn_ => (Kd.freshB (g := gb282) (o := .cells #[.int .i64 0, .int .i64 0, .string (⟨#[]⟩ : ByteArray), .slice none 0 0] 54 (0, 0)) (rb BK282.out) k_ hn_)), Or.elim hk_ (fun hs_ => hs_.2.2.2.2) (fun hn_ => (Kd.freshB (rb BK305.out) k_ hn_))⟩)) (below_size bb))
          have n4_ := Aside0.mk (blk_below (rb BK281.out) hb)
          have n5_ := Aside0.mk (blk_below (g := gb282) (o := .cells #[.int .i64 0, .int .i64 0, .string (⟨#[]⟩ : ByteArray), .slice none 0 0] 54 (0, 0)) (rb BK282.out) hb)
          have n6_ := Aside0.mk (blk_below (rb BK305.out) hb)
          have n7_ := Aside0.mk (below_step bb hb)
          clear HO_3
          clear HO_6
          clear HO354
          clear BK281
          clear BK282
          clear BK305
          clear HB
          have HO_3 := n0_
          have HO_6 := n1_
          have HO354 := n2_
          have HO360 := n3_
          have BK281 := n4_
          have BK282 := n5_
          have BK305 := n6_
          have HB := n7_
          clear n0_ n1_ n2_ n3_ n4_ n5_ n6_ n7_
          (try clear hb)
          (try clear hb2)
          (try clear hk)
          (try clear hi)
          (try clear ho0)
          obtain ⟨Ao48, co48, eo48⟩ := Kd.N_slice HO360.out
          (first | subst eo48 | (injection eo48 with f1_ f2_ f3_; have f4_ := f1_.symm; have f5_ := f3_.symm; clear f1_ f2_ f3_; subst f4_; subst f5_))
          refine hK.out _ _ ⟨(blk_cell BK305.out 0).trans rfl, (blk_cell BK305.out 1).trans rfl, (blk_cell BK305.out 2).trans rfl, (blk_cell BK305.out 3).trans rfl, (blk_cell BK305.out 4).trans rfl, (blk_cell BK305.out 5).trans rfl⟩ (fun hHeld => ?_)
          clear hK K
          refine norm_ (a' := ?_) ?_ ?_
          rotate_left
          ·show Act.put _ (some 48) _ = _
           simp only [Act.put, List.setIfInBounds_toArray, List.set_cons_zero, List.set_cons_succ, i64_w, i32_w]
           rfl
          refine one_ (i := 20) (N := some 49) #[true, true, true, true, true, true, true, true, true, true, true, true, true, true, true, true, true, true, true, true, true, false, false] rfl rfl (one_of HT_.out (by kernel_rfl)) (by decide) (fun K hK => ?_)
          refine value_ (w1 := ?_) (v := ?_) (by rfl) rfl ?_ ?_
          rotate_left 2
          ·go_simp
           constructor
           ·rfl
           ·rfl
          refine hK.out _ _ ⟨(blk_cell (blk_alloc BK305.out _) 0).trans rfl, (blk_cell (blk_alloc BK305.out _) 1).trans rfl, (blk_cell (blk_alloc BK305.out _) 2).trans rfl, (blk_cell (blk_alloc BK305.out _) 3).trans rfl, (blk_cell (blk_alloc BK305.out _) 4).trans rfl, (blk_cell (blk_alloc BK305.out _) 5).trans rfl⟩ (fun hHeld => ?_)
          clear hK K
          refine norm_ (a' := ?_) ?_ ?_
          rotate_left
          ·show Act.put _ (some 49) _ = _
           simp only [Act.put, List.setIfInBounds_toArray, List.set_cons_zero, List.set_cons_succ, i64_w, i32_w]
           rfl
          refine one_ (i := 21) (N := some 50) #[true, true, true, true, true, true, true, true, true, true, true, true, true, true, true, true, true, true, true, true, true, true, false] rfl rfl (one_of HT_.out (by kernel_rfl)) (by decide) (fun K hK => ?_)
          refine Kd.N_append_step k54 (w0 := w) w.heap.size (by rfl) (.tmp 29) (.tmp 49) 52 54 (.agg #[(.int .i64 0), (.int .i64 0), (.string ⟨#[]⟩), (.slice none 0 0)]) 56 rfl Try.underlying52 info54 rfl (by decide) (by omega) u3 x3_1 (⟨t355, t356, t357, t358⟩ : S54) [.int .i64 t355, .int .i64 t356, .string t357, .slice Ao48 t358.length co48] (fun k_ => (w.heap.size ≤ k_) ∧ k_ ≠ gb281 ∧ k_ ≠ gb282 ∧ k_ ≠ gb305) (fun k_ => ((fun k_ => (w.heap.size ≤ k_) ∧ k_ ≠ gb281 ∧ k_ ≠ gb282 ∧ k_ ≠ gb305)) k_ ∧ some k_ ≠ (u3 : Value).ownBlock) rfl rfl ?aP (fun _ hk => hk) ?aF ?aO ?aB ?aS ?aL ?_
          (case aP => exact (k54_mkF _ _ (⟨t355, t356, t357, t358⟩ : S54) (Kd.N_reads' (Kd.N_mono (ok' := (fun k_ => ((fun k_ => (w.heap.size ≤ k_) ∧ k_ ≠ gb281 ∧ k_ ≠ gb282 ∧ k_ ≠ gb305)) k_ ∧ some k_ ≠ (u3 : Value).ownBlock)) (HO360.out) (fun k_ hk => ⟨⟨hk.1, ⟨hk.2.2.1, ⟨hk.2.2.2.1, hk.2.2.2.2⟩⟩⟩, hk.2.1⟩))).2.1 (Kd.N_F (Kd.N_mono (ok' := (fun k_ => ((fun k_ => (w.heap.size ≤ k_) ∧ k_ ≠ gb281 ∧ k_ ≠ gb282 ∧ k_ ≠ gb305)) k_ ∧ some k_ ≠ (u3 : Value).ownBlock)) (HO360.out) (fun k_ hk => ⟨⟨hk.1, ⟨hk.2.2.1, ⟨hk.2.2.2.1, hk.2.2.2.2⟩⟩⟩, hk.2.1⟩)))))
          (case aB => exact bb)
          (case aF => exact (fun k_ hk => ⟨(Nat.le_trans (below_size bb) hk), Kd.freshB (rb BK281.out) k_ hk, Kd.freshB (g := gb282) (o := .cells #[.int .i64 0, .int .i64 0, .string (⟨#[]⟩ : ByteArray), .slice none 0 0] 54 (0, 0)) (rb BK282.out) k_ hk, Kd.freshB (rb BK305.out) k_ hk⟩))
          (case aO => exact (kN (Kd.N_mono HO_3.out (fun _ hk => ⟨hk.1.1.1.1.1.1.1.1.1, ⟨hk.1.1.1.1.1.1.1.1.2.2.1, ⟨hk.1.1.1.1.1.1.1.1.2.2.2.1, hk.1.1.1.1.1.1.1.1.2.2.2.2⟩⟩⟩))))
          (case aS => exact (below_size bb))
          (case aL => have := LMc28.out; omega)
          intro v362 w47 ho hb hg hat
          rw [← Ny361.out] at ho
          have n0_ := Aside0.mk (Kd.N_afterv (ok := (fun k_ => (w.heap.size ≤ k_) ∧ some k_ ≠ (.slice Ao45 y352.length co45 : Value).ownBlock ∧ some k_ ≠ (.slice Ao48 t358.length co48 : Value).ownBlock ∧ k_ ≠ gb281 ∧ k_ ≠ gb282 ∧ k_ ≠ gb305)) (kN (Kd.N_mono HO_6.out (fun _ hk => ⟨⟨hk.1.1.1.1.1.1.1.1.1, ⟨hk.1.2, ⟨hk.2, ⟨hk.1.1.1.1.1.1.1.1.2.2.1, ⟨hk.1.1.1.1.1.1.1.1.2.2.2.1, hk.1.1.1.1.1.1.1.1.2.2.2.2⟩⟩⟩⟩⟩, hk.1.1.1.1.1.1.1.1.2.1⟩))) hg hat)
          have n1_ := Aside0.mk (blk_grown (rb BK281.out) hg (Kd.N_ne HO_3.out BK281.out (by decide)))
          have n2_ := Aside0.mk (blk_grown (g := gb282) (o := .cells #[.int .i64 0, .int .i64 0, .string (⟨#[]⟩ : ByteArray), .slice none 0 0] 54 (0, 0)) (rb BK282.out) hg (Kd.N_away HO_3.out (fun _ hk => hk.1.1.1.1.1.1.1.1.2.2.2.1)))
          have n3_ := Aside0.mk (blk_grown (rb BK305.out) hg (Kd.N_ne HO_3.out BK305.out (by decide)))
          have n4_ := Aside0.mk (Kd.N_afterv (ok := (fun k_ => (w.heap.size ≤ k_) ∧ some k_ ≠ (.slice Ao48 t358.length co48 : Value).ownBlock ∧ k_ ≠ gb281 ∧ k_ ≠ gb282 ∧ k_ ≠ gb305)) (kN (Kd.N_mono HO354.out (fun _ hk => ⟨⟨hk.1.1, ⟨hk.2, ⟨hk.1.2.2.1, ⟨hk.1.2.2.2.1, hk.1.2.2.2.2⟩⟩⟩⟩, hk.1.2.1⟩))) hg hat)
          have n5_ := Aside0.mk (hb)
          have n6_ := Aside0.mk (ho)
          clear HO_6
          clear BK281
          clear BK282
          clear BK305
          clear HO354
          clear HB
          clear HO_3
          clear HO360
          have HO_6 := n0_
          have BK281 := n1_
          have BK282 := n2_
          have BK305 := n3_
          have HO354 := n4_
          have HB := n5_
          have HO363 := n6_
          clear n0_ n1_ n2_ n3_ n4_ n5_ n6_
          clear ho hb hg hat
          refine hK.out _ _ ⟨(blk_cell BK305.out 0).trans rfl, (blk_cell BK305.out 1).trans rfl, (blk_cell BK305.out 2).trans rfl, (blk_cell BK305.out 3).trans rfl, (blk_cell BK305.out 4).trans rfl, (blk_cell BK305.out 5).trans rfl⟩ (fun hHeld => ?_)
          clear hK K
          refine norm_ (a' := ?_) ?_ ?_
          rotate_left
          ·show Act.put _ (some 50) _ = _
           simp only [Act.put, List.setIfInBounds_toArray, List.set_cons_zero, List.set_cons_succ, i64_w, i32_w]
           rfl
          refine pure_ (i := 22) (N := some 3) (v := ?_) (a' := ?_) #[true, true, true, true, true, true, true, true, true, true, true, true, true, true, true, true, true, true, true, true, true, true, true] rfl rfl (any_of HT_.out (by kernel_rfl)) (fun _ _ _ h => h) (Or.inl ⟨by rfl, ?_⟩) ?_ ?_
          rotate_left
          ·intro w'
           go_simp
           with_reducible rfl
          rotate_left
          ·simp only [Act.put, List.setIfInBounds_toArray, List.set_cons_zero, List.set_cons_succ, i64_w, i32_w]
           rfl
          refine done_ (done_of HT_.out (by kernel_rfl)) ?_
          try go_wp2
          go_roundg k2
          case measure => have := HK1.out; have := HK2.out; omega
          case rel => exact ⟨(y361), (wrap64 (x12_1 + 1)), (by first | rfl | (simp; done) | (simp [*]; done)), H', ⟨by have := HK1.out; have := HK2.out; omega⟩, ⟨kN (Kd.N_mono HO363.out (fun _ hk => ⟨hk.1, ⟨hk.2.1, hk.2.2.1⟩⟩))⟩, ⟨by (with_reducible repeat (first | refine blk_drewN ?_ _ | refine blk_drew ?_ | refine blk_alloc ?_ _)); exact BK281.out⟩, ⟨by (with_reducible repeat (first | refine blk_drewN ?_ _ | refine blk_drew ?_ | refine blk_alloc ?_ _)); exact BK282.out⟩, ⟨bb⟩⟩
         ·rw [if_neg c28] at H
          exact absurd H (by simp)
     ·rw [if_neg c8] at H
      exact absurd H (by simp)
    ·rw [if_neg c7] at H
     exact absurd H (by simp)
   ·rw [if_neg c6] at H
    have c6b0 : decide (x12_1 < (l0_1.length : Int)) = false := decide_eq_false c6
    clear c6
    replace H := Option.bind_eq_some_iff.mp H
    obtain ⟨⟨t283, t284, t285, t286⟩, A490, H⟩ := H
    replace H : ((pack_All.f x3_1).bind fun bt289 => ((pack_All.f (([(⟨t283, t284, t285, t286⟩ : S54), (⟨bt289.1, bt289.2.1, bt289.2.2.1, bt289.2.2.2⟩ : S54)] : List (S54)))).bind fun bt298 => (some (bt298.1, bt298.2.1, bt298.2.2.1, bt298.2.2.2)))) = some (r1, r2, r3, r4) := H
    have A49 := Aside0.mk A490
    clear A490
    replace H := Option.bind_eq_some_iff.mp H
    obtain ⟨⟨t289, t290, t291, t292⟩, A500, H⟩ := H
    replace H : ((pack_All.f (([(⟨t283, t284, t285, t286⟩ : S54), (⟨t289, t290, t291, t292⟩ : S54)] : List (S54)))).bind fun bt298 => (some (bt298.1, bt298.2.1, bt298.2.2.1, bt298.2.2.2))) = some (r1, r2, r3, r4) := H
    have A50 := Aside0.mk A500
    clear A500
    obtain ⟨y295, hy295⟩ : ∃ y_ : List (S54), y_ = (([(⟨t283, t284, t285, t286⟩ : S54), (⟨t289, t290, t291, t292⟩ : S54)] : List (S54))) := ⟨_, rfl⟩
    replace H : ((pack_All.f y295).bind fun bt298 => (some (bt298.1, bt298.2.1, bt298.2.2.1, bt298.2.2.2))) = some (r1, r2, r3, r4) := by first | (rw [hy295]; with_reducible exact H) | (have H2_ := (Option.bind_some _ _).symm.trans H; rw [hy295]; with_reducible exact H2_) | (have H2_ := (Option.bind_some _ _).symm.trans H; with_reducible exact H2_) | with_reducible exact H | (rw [hy295]; exact H) | exact H
    have Ny295 := Aside0.mk hy295
    clear hy295
    replace H := Option.bind_eq_some_iff.mp H
    obtain ⟨⟨t298, t299, t300, t301⟩, A510, H⟩ := H
    replace H : (some (t298, t299, t300, t301)) = some (r1, r2, r3, r4) := H
    have A51 := Aside0.mk A510
    clear A510
    simp only [Option.some.injEq, Prod.mk.injEq] at H
    obtain ⟨rfl, rfl, rfl, rfl⟩ := H
    have hnb52 := NB281_282.out
    have hnc52 := NB282_281.out
    have hcz53_0 : wr.cell? ⟨gb281, 0, none⟩ = some (.string a0_0) := (blk_cell BK281.out 0).trans rfl
    have hcz53_1 : wr.cell? ⟨gb281, 1, none⟩ = some (.slice A0_1 l0_1.length c0_1) := (blk_cell BK281.out 1).trans rfl
    have hfz53_0 := blk_frozen BK281.out 0
    have hfz53_1 := blk_frozen BK281.out 1
    go_wp2_with (first | ((with_reducible refine gate_callee (f := 64) rfl ?_); refine goesL_ (some 54) rfl rfl Try.func64 (by kernel_rfl) rfl #[.string a0_0] rfl ag ?_; (with_reducible refine (pack_Str.calls a0_0 t283 t284 t285 t286 _ A49.out).mono ?_); rintro e w54 ⟨v287, rfl, ho0, hb⟩; refine ⟨_, rfl, ?_⟩; have n0_ := Aside0.mk (Kd.N_elder' (kN HO_3.out) (by first | exact Kd.N_base ho0 | exact Kd.N_base (Kd.R_N ho0) | exact Kd.N_base (Kd.S_N ho0)) hb); have n1_ := Aside0.mk (Kd.N_lower (Kd.N_mono (ok' := fun k_ => (w.heap.size ≤ k_) ∧ some k_ ≠ (u3 : Value).ownBlock ∧ k_ ≠ gb281 ∧ k_ ≠ gb282) (Kd.R_N (Kd.R_bound ho0)) (fun k_ hk_ => ⟨(Nat.le_trans (below_size bb) hk_.2.1), (Kd.fresh' (Kd.N_lt (kN HO_3.out)) k_ hk_.2.1), (Kd.freshB (rb BK281.out) k_ hk_.2.1), (Kd.freshB (g := gb282) (o := .cells #[.int .i64 0, .int .i64 0, .string (⟨#[]⟩ : ByteArray), .slice none 0 0] 54 (0, 0)) (rb BK282.out) k_ hk_.2.1)⟩)) (below_size bb)); have n2_ := Aside0.mk (blk_below (rb BK281.out) hb); have n3_ := Aside0.mk (blk_below (g := gb282) (o := .cells #[.int .i64 0, .int .i64 0, .string (⟨#[]⟩ : ByteArray), .slice none 0 0] 54 (0, 0)) (rb BK282.out) hb); have n4_ := Aside0.mk (below_step bb hb); clear HO_3; clear BK281; clear BK282; clear HB; have HO_3 := n0_; have HO288 := n1_; have BK281 := n2_; have BK282 := n3_; have HB := n4_; clear n0_ n1_ n2_ n3_ n4_; (try clear hb); (try clear hb2); (try clear hk); (try clear hi); (try clear ho0); obtain ⟨Ao55, co55, eo55⟩ := Kd.N_slice HO_3.out; subst eo55) | ((with_reducible refine gate_callee (f := 40) rfl ?_); refine goesL_ (some 56) rfl rfl Try.func40 (by kernel_rfl) rfl #[.slice Ao55 x3_1.length co55] rfl ag ?_; (with_reducible refine (pack_All.calls (fun k_ => (((w.heap.size ≤ k_) ∧ (k_ ≠ gb281 ∧ k_ ≠ gb282)) ∧ some k_ ≠ (v287 : Value).ownBlock)) _ _ x3_1 t289 t290 t291 t292 _ ?side1 A50.out).mono ?_); (case side1 => exact Kd.N_V (HO_3.out)); rintro e w56 ⟨v293, rfl, ho0, hb⟩; refine ⟨_, rfl, ?_⟩; have n0_ := Aside0.mk (Kd.N_elder' (kN HO_3.out) (by first | exact Kd.N_base ho0 | exact Kd.N_base (Kd.R_N ho0) | exact Kd.N_base (Kd.S_N ho0)) hb); have n1_ := Aside0.mk (Kd.N_elder' (kN HO288.out) (by first | exact Kd.N_base ho0 | exact Kd.N_base (Kd.R_N ho0) | exact Kd.N_base (Kd.S_N ho0)) hb); have n2_ := Aside0.mk (Kd.N_lower (Kd.N_mono (ok' := fun k_ => (w.heap.size ≤ k_) ∧ some k_ ≠ (v287 : Value).ownBlock ∧ k_ ≠ gb281 ∧ k_ ≠ gb282) ho0 (fun k_ hk_ => ⟨Or.elim hk_ (fun hs_ => hs_.1.1) (fun hn_ => (Nat.le_trans (below_size bb) hn_)), Or.elim hk_ (fun hs_ => hs_.2) (fun hn_ => (Kd.fresh' (Kd.N_lt (kN HO288.out)) k_ hn_)), Or.elim hk_ (fun hs_ => hs_.1.2.1) (fun hn_ => (Kd.freshB (rb BK281.out) k_ hn_)), Or.elim hk_ (fun hs_ => hs_.1.2.2) (fun hn_ => (Kd.freshB (g := gb282) (o := .cells #[.int .i64 0, .int .i64 0, .string (⟨#[]⟩ : ByteArray), .slice none 0 0] 54 (0, 0)) (rb BK282.out) k_ hn_))⟩)) (below_size bb)); have n3_ := Aside0.mk (blk_below (rb BK281.out) hb); have n4_ := Aside0.mk (blk_below (g := gb282) (o := .cells #[.int .i64 0, .int .i64 0, .string (⟨#[]⟩ : ByteArray), .slice none 0 0] 54 (0, 0)) (rb BK282.out) hb); have n5_ := Aside0.mk (below_step bb hb); clear HO_3; clear HO288; clear BK281; clear BK282; clear HB; have HO_3 := n0_; have HO288 := n1_; have HO294 := n2_; have BK281 := n3_; have BK282 := n4_; have HB := n5_; clear n0_ n1_ n2_ n3_ n4_ n5_; (try clear hb); (try clear hb2); (try clear hk); (try clear hi); (try clear ho0); obtain ⟨Ao57, co57, eo57⟩ := Kd.N_slice HO288.out; subst eo57; obtain ⟨Ao58, co58, eo58⟩ := Kd.N_slice HO294.out; subst eo58) | ((with_reducible refine gate_dst (N := 57) rfl ?_); refine Kd.N_lit k54 _ 54 ?hg (N' := 57) ?hd (xs := ([(⟨t283, t284, t285, t286⟩ : S54), (⟨t289, t290, t291, t292⟩ : S54)] : List (S54))) (inner := [.int .i64 t283, .int .i64 t284, .string t285, .slice Ao57 t286.length co57, .int .i64 t289, .int .i64 t290, .string t291, .slice Ao58 t292.length co58]) (ok := (fun k_ => (w.heap.size ≤ k_) ∧ k_ ≠ gb281 ∧ k_ ≠ gb282)) (okp := (fun k_ => (w.heap.size ≤ k_) ∧ k_ ≠ gb281 ∧ k_ ≠ gb282)) ?hr ?hp (fun _ hk => hk) ((show ∀ k_, w56.heap.size ≤ k_ → (fun k_ => (w.heap.size ≤ k_) ∧ k_ ≠ gb281 ∧ k_ ≠ gb282) k_ from fun k_ hk => ⟨(Nat.le_trans (below_size bb) hk), Kd.freshB (rb BK281.out) k_ hk, Kd.freshB (g := gb282) (o := .cells #[.int .i64 0, .int .i64 0, .string (⟨#[]⟩ : ByteArray), .slice none 0 0] 54 (0, 0)) (rb BK282.out) k_ hk⟩) _ (Nat.le_refl _)) (Below.refl _ _) (Nat.le_refl _) (by simp) ?_; (case hd => rfl); (case hg => rfl); (case hr => first | (go_simp; done) | (go_simp; rfl)); (case hp => exact (Reps.c4 (show Kd.FK k54 _ _ (⟨t283, t284, t285, t286⟩ : S54) [.int .i64 t283, .int .i64 t284, .string t285, .slice Ao57 t286.length co57] from (k54_mkF _ _ (⟨t283, t284, t285, t286⟩ : S54) (Kd.N_reads' (Kd.N_mono (ok' := (fun k_ => (w.heap.size ≤ k_) ∧ k_ ≠ gb281 ∧ k_ ≠ gb282)) (HO288.out) (fun k_ hk => ⟨hk.1.1, ⟨hk.1.2.2.1, hk.1.2.2.2⟩⟩))).2.1 (Kd.N_F (Kd.N_mono (ok' := (fun k_ => (w.heap.size ≤ k_) ∧ k_ ≠ gb281 ∧ k_ ≠ gb282)) (HO288.out) (fun k_ hk => ⟨hk.1.1, ⟨hk.1.2.2.1, hk.1.2.2.2⟩⟩))))) (Reps.c4 (show Kd.FK k54 _ _ (⟨t289, t290, t291, t292⟩ : S54) [.int .i64 t289, .int .i64 t290, .string t291, .slice Ao58 t292.length co58] from (k54_mkF _ _ (⟨t289, t290, t291, t292⟩ : S54) (Kd.N_reads' (Kd.N_mono (ok' := (fun k_ => (w.heap.size ≤ k_) ∧ k_ ≠ gb281 ∧ k_ ≠ gb282)) (HO294.out) (fun k_ hk => ⟨hk.1, ⟨hk.2.2.1, hk.2.2.2⟩⟩))).2.1 (Kd.N_F (Kd.N_mono (ok' := (fun k_ => (w.heap.size ≤ k_) ∧ k_ ≠ gb281 ∧ k_ ≠ gb282)) (HO294.out) (fun k_ hk => ⟨hk.1, ⟨hk.2.2.1, hk.2.2.2⟩⟩))))) (Reps.none _ _)))); intro v296 w59 ho60 hb hg_ hnew_; clear hg_ hnew_; (first | rw [← Ny295.out] at ho60 | (simp only [Int.reduceToNat] at ho60; rw [← Ny295.out] at ho60)); have n0_ := Aside0.mk (Kd.N_elder' (kN HO_3.out) (by first | exact Kd.N_base ho60 | exact Kd.N_base (Kd.R_N ho60) | exact Kd.N_base (Kd.S_N ho60)) hb); have n1_ := Aside0.mk (Kd.N_lower ho60 (below_size bb)); have n2_ := Aside0.mk (blk_below (rb BK281.out) hb); have n3_ := Aside0.mk (blk_below (g := gb282) (o := .cells #[.int .i64 0, .int .i64 0, .string (⟨#[]⟩ : ByteArray), .slice none 0 0] 54 (0, 0)) (rb BK282.out) hb); have n4_ := Aside0.mk (below_step bb hb); clear HO_3; clear BK281; clear BK282; clear HB; clear HO288; clear HO294; have HO_3 := n0_; have HO297 := n1_; have BK281 := n2_; have BK282 := n3_; have HB := n4_; clear n0_ n1_ n2_ n3_ n4_; clear hb ho60; obtain ⟨Ao61, co61, eo61⟩ := Kd.N_slice HO297.out; subst eo61) | ((with_reducible refine gate_callee (f := 40) rfl ?_); refine goesL_ (some 58) rfl rfl Try.func40 (by kernel_rfl) rfl #[.slice Ao61 y295.length co61] rfl ag ?_; (with_reducible refine (pack_All.calls (fun k_ => ((w.heap.size ≤ k_) ∧ (k_ ≠ gb281 ∧ k_ ≠ gb282))) _ _ y295 t298 t299 t300 t301 _ ?side1 A51.out).mono ?_); (case side1 => exact Kd.N_V (HO297.out)); rintro e w62 ⟨v302, rfl, ho0, hb⟩; refine ⟨_, rfl, ?_⟩; have n0_ := Aside0.mk (Kd.N_elder' (kN HO_3.out) (by first | exact Kd.N_base ho0 | exact Kd.N_base (Kd.R_N ho0) | exact Kd.N_base (Kd.S_N ho0)) hb); have n1_ := Aside0.mk (Kd.N_elder' (kN HO297.out) (by first | exact Kd.N_base ho0 | exact Kd.N_base (Kd.R_N ho0) | exact Kd.N_base (Kd.S_N ho0)) hb); have n2_ := Aside0.mk (Kd.N_lower (Kd.N_mono (ok' := fun k_ => (w.heap.size ≤ k_) ∧ k_ ≠ gb281 ∧ k_ ≠ gb282) ho0 (fun k_ hk_ => ⟨Or.elim hk_ (fun hs_ => hs_.1) (fun hn_ => (Nat.le_trans (below_size bb) hn_)), Or.elim hk_ (fun hs_ => hs_.2.1) (fun hn_ => (Kd.freshB (rb BK281.out) k_ hn_)), Or.elim hk_ (fun hs_ => hs_.2.2) (fun hn_ => (Kd.freshB (g := gb282) (o := .cells #[.int .i64 0, .int .i64 0, .string (⟨#[]⟩ : ByteArray), .slice none 0 0] 54 (0, 0)) (rb BK282.out) k_ hn_))⟩)) (below_size bb)); have n3_ := Aside0.mk (blk_below (rb BK281.out) hb); have n4_ := Aside0.mk (blk_below (g := gb282) (o := .cells #[.int .i64 0, .int .i64 0, .string (⟨#[]⟩ : ByteArray), .slice none 0 0] 54 (0, 0)) (rb BK282.out) hb); have n5_ := Aside0.mk (below_step bb hb); clear HO_3; clear HO297; clear BK281; clear BK282; clear HB; have HO_3 := n0_; have HO297 := n1_; have HO303 := n2_; have BK281 := n3_; have BK282 := n4_; have HB := n5_; clear n0_ n1_ n2_ n3_ n4_ n5_; (try clear hb); (try clear hb2); (try clear hk); (try clear hi); (try clear ho0); have hcz63_0 : w62.cell? ⟨gb282, 0, none⟩ = some (.int .i64 0) := (blk_cell BK282.out 0).trans rfl; have hcz63_1 : w62.cell? ⟨gb282, 1, none⟩ = some (.int .i64 0) := (blk_cell BK282.out 1).trans rfl; have hcz63_2 : w62.cell? ⟨gb282, 2, none⟩ = some (.string (⟨#[]⟩ : ByteArray)) := (blk_cell BK282.out 2).trans rfl; have hcz63_3 : w62.cell? ⟨gb282, 3, none⟩ = some (.slice none 0 0) := (blk_cell BK282.out 3).trans rfl; have hfz63_0 := blk_frozen BK282.out 0; have hfz63_1 := blk_frozen BK282.out 1; have hfz63_2 := blk_frozen BK282.out 2; have hfz63_3 := blk_frozen BK282.out 3; obtain ⟨Ao64, co64, eo64⟩ := Kd.N_slice HO303.out; subst eo64))
    refine bodyPost_ret (results_cell_row rfl _ _ gb282 54 #[.int .i64 t298, .int .i64 t299, .string t300, .slice Ao64 t301.length co64] (0, 0) _ rfl (rb (blk_put (cs := #[.int .i64 t298, .int .i64 t299, .string t300, .slice none 0 0]) (rb (blk_put (cs := #[.int .i64 t298, .int .i64 t299, .string (⟨#[]⟩ : ByteArray), .slice none 0 0]) (rb (blk_put (cs := #[.int .i64 t298, .int .i64 0, .string (⟨#[]⟩ : ByteArray), .slice none 0 0]) (rb (blk_put (cs := #[.int .i64 0, .int .i64 0, .string (⟨#[]⟩ : ByteArray), .slice none 0 0]) (rb BK282.out) 0 _ rfl)) 1 _ rfl)) 2 _ rfl)) 3 _ rfl)) Try.underlying54 rfl (by kernel_rfl)) rfl ?_
    exact ⟨_, by first | rfl | (simp [errW_none, errW_some] <;> rfl) | (simp [*, errW_none, errW_some] <;> rfl), kN (Kd.N_mono (Kd.N_far (p := ⟨gb282, 3, none⟩) (Kd.N_far (p := ⟨gb282, 2, none⟩) (Kd.N_far (p := ⟨gb282, 1, none⟩) (Kd.N_far (p := ⟨gb282, 0, none⟩) (Kd.N_mono HO303.out (fun k_ hk => (⟨hk, hk.2.2⟩ : _ ∧ k_ ≠ gb282))) (fun _ hk => hk.2) (.int .i64 t298)) (fun _ hk => hk.2) (.int .i64 t299)) (fun _ hk => hk.2) (.string t300)) (fun _ hk => hk.2) (.slice Ao64 t301.length co64)) (fun _ hk => hk.1.1)), bb⟩

end Go.Proofs.Ytjicfkmpgogppaa.PA
