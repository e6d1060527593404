-- printed by a program of this session out of the translation; see NOTES.md
import Derived.Test.YtjicfkmpgogppaaPGx0
import Derived.Test.YtjicfkmpgogppaaPGx3
import Derived.Test.YtjicfkmpgogppaaRb
namespace Go.Proofs.Ytjicfkmpgogppaa.PG
open Go.RowKit Go.Proofs.YtjicfkmpgogppaaW.PrintWords Go.Proofs.YtjicfkmpgogppaaW.PrintLast Go.Proofs.YtjicfkmpgogppaaW.PrintMore Go.Proofs.YtjicfkmpgogppaaRb
attribute [local go_sem] max2_int min2_int max_two min_two max_three min_three max_four min_four   -- for this text's walks alone
set_option linter.unusedVariables false
set_option linter.unusedSimpArgs false

/-! ### graph_Masks: function 18 -/
mutual
def graph_Masks.l0 : Nat → List Int → List (S48) → Int → Int → ByteArray → List (S48) → Option (List Int)
 | 0, _, _, _, _, _, _ => none
 | k + 1, x3, x11, x12, x13, x102000, x102001 => if x13 < x12 then (if 0 ≤ x13 then (if x13 < (x11.length : Int) then (graph_Masks.l1 k x3 0 x11 x12 x13 ((rd_T48 x11 x13).f1) (((rd_T48 x11 x13).f1).length : Int) 0 x102000 x102001) else (none)) else (none)) else (some x3)
def graph_Masks.l1 : Nat → List Int → Int → List (S48) → Int → Int → List ByteArray → Int → Int → ByteArray → List (S48) → Option (List Int)
 | 0, _, _, _, _, _, _, _, _, _, _ => none
 | k + 1, x3, x6, x11, x12, x13, x18, x19, x20, x102000, x102001 => if x20 < x19 then (if 0 ≤ x20 then (if x20 < (x18.length : Int) then ((graph_Flow_find.f x102000 x102001 (rdOf ByteArray.empty x18 x20)).bind fun t105 => (if t105 ≥ 0 then (if 0 ≤ t105 then (graph_Masks.l1 k x3 (Go.bits .or .u32 x6 (shl .u32 1 t105)) x11 x12 x13 x18 x19 (wrap64 (x20 + 1)) x102000 x102001) else (none)) else (graph_Masks.l1 k x3 x6 x11 x12 x13 x18 x19 (wrap64 (x20 + 1)) x102000 x102001))) else (none)) else (none)) else (if x3.length < 35184372088832 then (graph_Masks.l0 k (x3 ++ [x6]) x11 x12 (wrap64 (x13 + 1)) x102000 x102001) else (none))
end
def graph_Masks.f (k : Nat) (a0_0 : ByteArray) (l0_1 : List (S48)) : Option (List Int) := graph_Masks.l0 k ([] : List Int) l0_1 (l0_1.length : Int) 0 a0_0 l0_1
theorem graph_Masks.mono_l : ∀ k, (∀ y0 y1 y2 y3 y4 y5, LeO (graph_Masks.l0 k y0 y1 y2 y3 y4 y5) (graph_Masks.l0 (k + 1) y0 y1 y2 y3 y4 y5)) ∧ (∀ y0 y1 y2 y3 y4 y5 y6 y7 y8 y9, LeO (graph_Masks.l1 k y0 y1 y2 y3 y4 y5 y6 y7 y8 y9) (graph_Masks.l1 (k + 1) y0 y1 y2 y3 y4 y5 y6 y7 y8 y9))
 | 0 => ⟨fun _ _ _ _ _ _ r h => by simp [graph_Masks.l0] at h, fun _ _ _ _ _ _ _ _ _ _ r h => by simp [graph_Masks.l1] at h⟩
 | k + 1 => by
  obtain ⟨ih0, ih1⟩ := graph_Masks.mono_l k
  refine ⟨?_, ?_⟩
  ·intro y0 y1 y2 y3 y4 y5
   unfold graph_Masks.l0
   repeat' first
   | (with_reducible exact ih0 _ _ _ _ _ _)
   | (with_reducible exact ih1 _ _ _ _ _ _ _ _ _ _)
   | (with_reducible exact LeO.refl _)
   | (with_reducible exact LeO.none _)
   | (with_reducible refine LeO.ite ?_ ?_)
   | (with_reducible refine LeO.bind ?_ (fun _ => ?_))
   | exact ih0 _ _ _ _ _ _
   | exact ih1 _ _ _ _ _ _ _ _ _ _
   | exact LeO.none _
   | refine LeO.ite ?_ ?_
   | refine LeO.bind ?_ (fun _ => ?_)
  ·intro y0 y1 y2 y3 y4 y5 y6 y7 y8 y9
   unfold graph_Masks.l1
   repeat' first
   | (with_reducible exact ih0 _ _ _ _ _ _)
   | (with_reducible exact ih1 _ _ _ _ _ _ _ _ _ _)
   | (with_reducible exact LeO.refl _)
   | (with_reducible exact LeO.none _)
   | (with_reducible refine LeO.ite ?_ ?_)
   | (with_reducible refine LeO.bind ?_ (fun _ => ?_))
   | exact ih0 _ _ _ _ _ _
   | exact ih1 _ _ _ _ _ _ _ _ _ _
   | exact LeO.none _
   | refine LeO.ite ?_ ?_
   | refine LeO.bind ?_ (fun _ => ?_)
theorem graph_Masks.mono : ∀ a0 a1 k, LeO (graph_Masks.f k a0 a1) (graph_Masks.f (k + 1) a0 a1) := by
 intro a0 a1 k
 obtain ⟨ih0, ih1⟩ := graph_Masks.mono_l k
 unfold graph_Masks.f
 repeat' first
   | (with_reducible exact ih0 _ _ _ _ _ _)
   | (with_reducible exact ih1 _ _ _ _ _ _ _ _ _ _)
   | (with_reducible exact LeO.refl _)
   | (with_reducible exact LeO.none _)
   | (with_reducible refine LeO.ite ?_ ?_)
   | (with_reducible refine LeO.bind ?_ (fun _ => ?_))
   | exact ih0 _ _ _ _ _ _
   | exact ih1 _ _ _ _ _ _ _ _ _ _
   | exact LeO.none _
   | refine LeO.ite ?_ ?_
   | refine LeO.bind ?_ (fun _ => ?_)
set_option maxHeartbeats 8000000 in
set_option maxRecDepth 100000 in
theorem graph_Masks.calls (k : Nat) (a0_0 : ByteArray) (A0_1 : Option Addr) (c0_1 : Nat) (l0_1 : List (S48)) (r : List Int) (w : World) (hr0_1 : Kd.C k48 w A0_1 l0_1.length l0_1) (hc0_1 : l0_1.length ≤ c0_1) (h : graph_Masks.f k a0_0 l0_1 = some r) :
  Calls Try.prog 18 #[.agg #[.string a0_0, .slice A0_1 l0_1.length c0_1]] w fun e w' => ∃ v0_ : Value, e = .returned (v0_) ∧ Kd.R (Kd.int .u32) 43 w' w.heap.size (fun _ => True) v0_ r ∧ Below w.heap.size w w' := by
 have hu27 := Try.underlying27
 have hu48 := Try.underlying48
 have HR0_1 := Aside0.mk hr0_1
 have HC0_1 := Aside0.mk hc0_1
 clear hr0_1 hc0_1
 have HB := Aside0.mk (Below.refl w.heap.size w)
 have H : (graph_Masks.l0 k ([] : List Int) l0_1 (l0_1.length : Int) 0 a0_0 l0_1) = some r := h
 clear h
 have H' := Aside0.mk H
 clear H
 go_enter Try.func18, Try.ntmps18
 go_wp2_with (first | ((with_reducible refine gate_dst (N := 1) rfl ?_); refine box_event ?hg (N := 1) ?hd (cs := #[.string a0_0, .slice A0_1 l0_1.length c0_1]) (t := 27) ?hr ?_; (case hd => rfl); (case hg => rfl); (case hr => first | (go_simp; done) | (go_simp; rfl)); intro gb101 hg w2 hbox hb; have n0_ := Aside0.mk (below_step bb hb); have n1_ := Aside0.mk (hbox); have n2_ := Aside0.mk ((by rw [hg]; exact (below_size bb) : w.heap.size ≤ gb101)); have n3_ := Aside0.mk ((by rw [hg]; exact (below_size bb) : w.heap.size ≤ gb101)); clear HB; have HB := n0_; have BK101 := n1_; have GW101 := n2_; have GE101 := n3_; clear n0_ n1_ n2_ n3_; clear hb hbox hg; have hcz3_0 : w2.cell? ⟨gb101, 0, none⟩ = some (.string a0_0) := (blk_cell BK101.out 0).trans rfl; have hcz3_1 : w2.cell? ⟨gb101, 1, none⟩ = some (.slice A0_1 l0_1.length c0_1) := (blk_cell BK101.out 1).trans rfl; have hfz3_0 := blk_frozen BK101.out 0; have hfz3_1 := blk_frozen BK101.out 1))
 go_loopg [3, 13] k (fun kq v3 v13 w' => ∃ (x3_1 : List Int) (x13_1 : Int), v13 = .int .i64 x13_1 ∧ Aside0 (graph_Masks.l0 kq x3_1 l0_1 (l0_1.length : Int) x13_1 a0_0 l0_1 = some r) ∧ Aside0 (kq ≤ k) ∧ Aside0 (Kd.R (Kd.int .u32) 43 w' w.heap.size (fun _ => True) v3 x3_1) ∧ Aside0 (w'.heap[gb101]? = some (.cells #[.string a0_0, (.slice A0_1 l0_1.length c0_1)] 27 (0, 0))) ∧ Aside0 (Below w.heap.size w w'))
 case atStart => exact ⟨(([] : List Int)), (0), (by first | rfl | (simp; done) | (simp [*]; done)), H', ⟨Nat.le_refl _⟩, ⟨kn⟩, ⟨by (with_reducible repeat (first | refine blk_drewN ?_ _ | refine blk_drew ?_ | refine blk_alloc ?_ _)); exact BK101.out⟩, ⟨bb⟩⟩
 case round =>
  clear H'
  try clear c1
  try clear p2
  try clear hcz3_0
  try clear hcz3_1
  try clear hfz3_0
  try clear hfz3_1
  obtain ⟨x3_1, x13_1, rfl, HA, HK1, HO_3, BK101, HB⟩ := hrel
  cases gk with
  | zero => exact absurd HA.out (by simp [graph_Masks.l0])
  | succ k1 =>
   have H := HA.out
   clear HA
   simp only [graph_Masks.l0] at H
   by_cases c4 : x13_1 < (l0_1.length : Int)
   ·rw [if_pos c4] at H
    have c4b0 : decide (x13_1 < (l0_1.length : Int)) = true := decide_eq_true c4
    clear c4
    by_cases c5 : 0 ≤ x13_1
    ·rw [if_pos c5] at H
     have c5b0 : decide (0 ≤ x13_1) = true := decide_eq_true c5
     clear c5
     by_cases c6 : x13_1 < (l0_1.length : Int)
     ·rw [if_pos c6] at H
      have c6b0 : decide (x13_1 < (l0_1.length : Int)) = true := decide_eq_true c6
      clear c6
      have H' := Aside0.mk H
      clear H
      have p102 : 0 ≤ (x13_1 : Int) := of_decide_eq_true (by first | (with_reducible assumption) | assumption)
      have q102 : x13_1 < (l0_1.length : Int) := of_decide_eq_true (by first | (with_reducible assumption) | assumption)
      obtain ⟨ad102, A102_1, c102_1, e102, hx102_0, hx102_1, hx102_2, hx102_3, hx102_4, hx102_5, hl102_1, hi102_1⟩ := at_T48 HR0_1.out x13_1 p102 q102
      cases e102
      replace hx102_0 := (HB.out.cell (World.block_lt_of_cell? w _ hx102_0)).trans hx102_0
      replace hx102_1 := (HB.out.cell (World.block_lt_of_cell? w _ hx102_1)).trans hx102_1
      replace hx102_2 := (HB.out.cell (World.block_lt_of_cell? w _ hx102_2)).trans hx102_2
      replace hx102_3 := (HB.out.cell (World.block_lt_of_cell? w _ hx102_3)).trans hx102_3
      replace hx102_4 := (HB.out.cell (World.block_lt_of_cell? w _ hx102_4)).trans hx102_4
      replace hx102_5 := (HB.out.cell (World.block_lt_of_cell? w _ hx102_5)).trans hx102_5
      have HR102_1 := Aside0.mk hi102_1
      have HC102_1 := Aside0.mk hl102_1
      clear hi102_1 hl102_1
      replace p102 := eq_true p102
      replace q102 := eq_true q102
      go_wp2_with (first | ((with_reducible refine gate_dst (N := 5) rfl ?_); refine box_event ?hg (N := 5) ?hd (cs := #[.string (⟨#[]⟩ : ByteArray), .slice none 0 0, .int .i64 0, .int .i64 0, .int .i64 0, .string (⟨#[]⟩ : ByteArray)]) (t := 48) ?hr ?_; (case hd => rfl); (case hg => rfl); (case hr => first | (go_simp; done) | (go_simp; rfl)); intro gb103 hg w7 hbox hb; have n0_ := Aside0.mk (Kd.R_below (kR HO_3.out) hb); have n1_ := Aside0.mk (blk_below (rb BK101.out) hb); have n2_ := Aside0.mk (below_step bb hb); have n3_ := Aside0.mk (hbox); have n4_ := Aside0.mk ((by rw [hg]; exact (below_size bb) : w.heap.size ≤ gb103)); have n5_ := Aside0.mk ((by rw [hg]; exact (below_size bb) : w.heap.size ≤ gb103)); have n6_ := Aside0.mk ((by rw [hg]; exact Nat.ne_of_lt (blk_lt (rb BK101.out)) : gb101 ≠ gb103)); have n7_ := Aside0.mk ((by rw [hg]; exact Nat.ne_of_gt (blk_lt (rb BK101.out)) : gb103 ≠ gb101)); clear HO_3; clear BK101; clear HB; have HO_3 := n0_; have BK101 := n1_; have HB := n2_; have BK103 := n3_; have GW103 := n4_; have GE103 := n5_; have NB101_103 := n6_; have NB103_101 := n7_; clear n0_ n1_ n2_ n3_ n4_ n5_ n6_ n7_; clear hb hbox hg; have hnb8 := NB103_101.out; have hnc8 := NB101_103.out; have hcz9_0 : w7.cell? ⟨gb103, 0, none⟩ = some (.string (⟨#[]⟩ : ByteArray)) := (blk_cell BK103.out 0).trans rfl; have hcz9_1 : w7.cell? ⟨gb103, 1, none⟩ = some (.slice none 0 0) := (blk_cell BK103.out 1).trans rfl; have hcz9_2 : w7.cell? ⟨gb103, 2, none⟩ = some (.int .i64 0) := (blk_cell BK103.out 2).trans rfl; have hcz9_3 : w7.cell? ⟨gb103, 3, none⟩ = some (.int .i64 0) := (blk_cell BK103.out 3).trans rfl; have hcz9_4 : w7.cell? ⟨gb103, 4, none⟩ = some (.int .i64 0) := (blk_cell BK103.out 4).trans rfl; have hcz9_5 : w7.cell? ⟨gb103, 5, none⟩ = some (.string (⟨#[]⟩ : ByteArray)) := (blk_cell BK103.out 5).trans rfl; have hfz9_0 := blk_frozen BK103.out 0; have hfz9_1 := blk_frozen BK103.out 1; have hfz9_2 := blk_frozen BK103.out 2; have hfz9_3 := blk_frozen BK103.out 3; have hfz9_4 := blk_frozen BK103.out 4; have hfz9_5 := blk_frozen BK103.out 5))
      go_loopg [6, 20] k1 (fun kq v6 v20 w' => ∃ (x6_2 : Int) (x20_2 : Int), v6 = .int .u32 x6_2 ∧ v20 = .int .i64 x20_2 ∧ Aside0 (graph_Masks.l1 kq x3_1 x6_2 l0_1 (l0_1.length : Int) x13_1 ((rd_T48 l0_1 x13_1).f1) (((rd_T48 l0_1 x13_1).f1).length : Int) x20_2 a0_0 l0_1 = some r) ∧ Aside0 (kq ≤ k1) ∧ Aside0 (Kd.R (Kd.int .u32) 43 w' w.heap.size (fun _ => True) u3 x3_1) ∧ Aside0 (w'.heap[gb101]? = some (.cells #[.string a0_0, (.slice (some ad102) l0_1.length c0_1)] 27 (0, 0))) ∧ Aside0 (w'.heap[gb103]? = some (.cells #[.string ((rd_T48 l0_1 x13_1).f0), (.slice A102_1 ((rd_T48 l0_1 x13_1).f1).length c102_1), .int .i64 ((rd_T48 l0_1 x13_1).f2), .int .i64 ((rd_T48 l0_1 x13_1).f3), .int .i64 ((rd_T48 l0_1 x13_1).f4), .string ((rd_T48 l0_1 x13_1).f5)] 48 (0, 0))) ∧ Aside0 (Below w.heap.size w w'))
      case atStart => exact ⟨(0), (0), (by first | rfl | (simp; done) | (simp [*]; done)), (by first | rfl | (simp; done) | (simp [*]; done)), H', ⟨Nat.le_refl _⟩, ⟨kR (Kd.R_mono (Kd.R_far (p := ⟨gb103, 5, none⟩) (Kd.R_far (p := ⟨gb103, 4, none⟩) (Kd.R_far (p := ⟨gb103, 3, none⟩) (Kd.R_far (p := ⟨gb103, 2, none⟩) (Kd.R_far (p := ⟨gb103, 1, none⟩) (Kd.R_far (p := ⟨gb103, 0, none⟩) (Kd.R_types HO_3.out BK103.out (by decide)) (fun _ hk => hk.2) (.string ((rd_T48 l0_1 x13_1).f0))) (fun _ hk => hk.2) (.slice A102_1 ((rd_T48 l0_1 x13_1).f1).length c102_1)) (fun _ hk => hk.2) (.int .i64 ((rd_T48 l0_1 x13_1).f2))) (fun _ hk => hk.2) (.int .i64 ((rd_T48 l0_1 x13_1).f3))) (fun _ hk => hk.2) (.int .i64 ((rd_T48 l0_1 x13_1).f4))) (fun _ hk => hk.2) (.string ((rd_T48 l0_1 x13_1).f5))) (fun _ hk => trivial))⟩, ⟨by (with_reducible repeat (first | refine blk_drewN ?_ _ | refine blk_drew ?_ | refine blk_alloc ?_ _)); refine blk_far ?_ NB101_103.out _; (with_reducible repeat (first | refine blk_drewN ?_ _ | refine blk_drew ?_ | refine blk_alloc ?_ _)); refine blk_far ?_ NB101_103.out _; (with_reducible repeat (first | refine blk_drewN ?_ _ | refine blk_drew ?_ | refine blk_alloc ?_ _)); refine blk_far ?_ NB101_103.out _; (with_reducible repeat (first | refine blk_drewN ?_ _ | refine blk_drew ?_ | refine blk_alloc ?_ _)); refine blk_far ?_ NB101_103.out _; (with_reducible repeat (first | refine blk_drewN ?_ _ | refine blk_drew ?_ | refine blk_alloc ?_ _)); refine blk_far ?_ NB101_103.out _; (with_reducible repeat (first | refine blk_drewN ?_ _ | refine blk_drew ?_ | refine blk_alloc ?_ _)); refine blk_far ?_ NB101_103.out _; (with_reducible repeat (first | refine blk_drewN ?_ _ | refine blk_drew ?_ | refine blk_alloc ?_ _)); exact BK101.out⟩, ⟨by (with_reducible repeat (first | refine blk_drewN ?_ _ | refine blk_drew ?_ | refine blk_alloc ?_ _)); refine blk_put (cs := #[.string ((rd_T48 l0_1 x13_1).f0), .slice A102_1 ((rd_T48 l0_1 x13_1).f1).length c102_1, .int .i64 ((rd_T48 l0_1 x13_1).f2), .int .i64 ((rd_T48 l0_1 x13_1).f3), .int .i64 ((rd_T48 l0_1 x13_1).f4), .string (⟨#[]⟩ : ByteArray)]) ?_ 5 _ rfl; (with_reducible repeat (first | refine blk_drewN ?_ _ | refine blk_drew ?_ | refine blk_alloc ?_ _)); refine blk_put (cs := #[.string ((rd_T48 l0_1 x13_1).f0), .slice A102_1 ((rd_T48 l0_1 x13_1).f1).length c102_1, .int .i64 ((rd_T48 l0_1 x13_1).f2), .int .i64 ((rd_T48 l0_1 x13_1).f3), .int .i64 0, .string (⟨#[]⟩ : ByteArray)]) ?_ 4 _ rfl; (with_reducible repeat (first | refine blk_drewN ?_ _ | refine blk_drew ?_ | refine blk_alloc ?_ _)); refine blk_put (cs := #[.string ((rd_T48 l0_1 x13_1).f0), .slice A102_1 ((rd_T48 l0_1 x13_1).f1).length c102_1, .int .i64 ((rd_T48 l0_1 x13_1).f2), .int .i64 0, .int .i64 0, .string (⟨#[]⟩ : ByteArray)]) ?_ 3 _ rfl; (with_reducible repeat (first | refine blk_drewN ?_ _ | refine blk_drew ?_ | refine blk_alloc ?_ _)); refine blk_put (cs := #[.string ((rd_T48 l0_1 x13_1).f0), .slice A102_1 ((rd_T48 l0_1 x13_1).f1).length c102_1, .int .i64 0, .int .i64 0, .int .i64 0, .string (⟨#[]⟩ : ByteArray)]) ?_ 2 _ rfl; (with_reducible repeat (first | refine blk_drewN ?_ _ | refine blk_drew ?_ | refine blk_alloc ?_ _)); refine blk_put (cs := #[.string ((rd_T48 l0_1 x13_1).f0), .slice none 0 0, .int .i64 0, .int .i64 0, .int .i64 0, .string (⟨#[]⟩ : ByteArray)]) ?_ 1 _ rfl; (with_reducible repeat (first | refine blk_drewN ?_ _ | refine blk_drew ?_ | refine blk_alloc ?_ _)); refine blk_put (cs := #[.string (⟨#[]⟩ : ByteArray), .slice none 0 0, .int .i64 0, .int .i64 0, .int .i64 0, .string (⟨#[]⟩ : ByteArray)]) ?_ 0 _ rfl; (with_reducible repeat (first | refine blk_drewN ?_ _ | refine blk_drew ?_ | refine blk_alloc ?_ _)); exact BK103.out⟩, ⟨bb⟩⟩
      case round =>
       clear H'
       try clear c1
       try clear p1
       try clear q1
       try clear hx1
       try clear p2
       try clear c4
       try clear c4b0
       try clear c5
       try clear c5b0
       try clear c6
       try clear c6b0
       try clear c8
       try clear hcz3_0
       try clear hcz3_1
       try clear hcz9_0
       try clear hcz9_1
       try clear hcz9_2
       try clear hcz9_3
       try clear hcz9_4
       try clear hcz9_5
       try clear hfz3_0
       try clear hfz3_1
       try clear hfz9_0
       try clear hfz9_1
       try clear hfz9_2
       try clear hfz9_3
       try clear hfz9_4
       try clear hfz9_5
       try clear hx102_0
       try clear hx102_1
       try clear hx102_2
       try clear hx102_3
       try clear hx102_4
       try clear hx102_5
       try clear p102
       try clear p2
       try clear q102
       obtain ⟨x6_2, x20_2, rfl, rfl, HA, HK2, HO_3, BK101, BK103, HB⟩ := hrel
       cases gk with
       | zero => exact absurd HA.out (by simp [graph_Masks.l1])
       | succ k2 =>
        have H := HA.out
        clear HA
        simp only [graph_Masks.l1] at H
        by_cases c10 : x20_2 < (((rd_T48 l0_1 x13_1).f1).length : Int)
        ·rw [if_pos c10] at H
         have c10b0 : decide (x20_2 < (((rd_T48 l0_1 x13_1).f1).length : Int)) = true := decide_eq_true c10
         clear c10
         by_cases c11 : 0 ≤ x20_2
         ·rw [if_pos c11] at H
          have c11b0 : decide (0 ≤ x20_2) = true := decide_eq_true c11
          clear c11
          by_cases c12 : x20_2 < (((rd_T48 l0_1 x13_1).f1).length : Int)
          ·rw [if_pos c12] at H
           have c12b0 : decide (x20_2 < (((rd_T48 l0_1 x13_1).f1).length : Int)) = true := decide_eq_true c12
           clear c12
           replace H := Option.bind_eq_some_iff.mp H
           obtain ⟨t105, A130, H⟩ := H
           replace H : (if t105 ≥ 0 then (if 0 ≤ t105 then (graph_Masks.l1 k2 x3_1 (Go.bits .or .u32 x6_2 (shl .u32 1 t105)) l0_1 (l0_1.length : Int) x13_1 ((rd_T48 l0_1 x13_1).f1) (((rd_T48 l0_1 x13_1).f1).length : Int) (wrap64 (x20_2 + 1)) a0_0 l0_1) else (none)) else (graph_Masks.l1 k2 x3_1 x6_2 l0_1 (l0_1.length : Int) x13_1 ((rd_T48 l0_1 x13_1).f1) (((rd_T48 l0_1 x13_1).f1).length : Int) (wrap64 (x20_2 + 1)) a0_0 l0_1)) = some r := H
           have A13 := Aside0.mk A130
           clear A130
           by_cases c14 : t105 ≥ 0
           ·rw [if_pos c14] at H
            have c14b0 : decide (0 ≤ t105) = true := decide_eq_true c14
            clear c14
            by_cases c15 : 0 ≤ t105
            ·rw [if_pos c15] at H
             have c15b0 := eq_true c15
             have c15b1 : decide (0 ≤ t105) = true := decide_eq_true c15
             clear c15
             obtain ⟨ji16, hji16⟩ : ∃ j_ : Int, (shl .u32 1 t105) = j_ := ⟨_, rfl⟩
             replace H : (graph_Masks.l1 k2 x3_1 (Go.bits .or .u32 x6_2 (ji16)) l0_1 (l0_1.length : Int) x13_1 ((rd_T48 l0_1 x13_1).f1) (((rd_T48 l0_1 x13_1).f1).length : Int) (wrap64 (x20_2 + 1)) a0_0 l0_1) = some r := by first | (rw [hji16] at H; exact H) | (simp only [hji16] at H ⊢; exact H)
             (try rw [hji16] at A13)
             have hji16_ : (IntKind.u32.wrap (1 * 2 ^ min t105.toNat 32)) = ji16 := hji16
             have hji16z : t105 ≤ 32 → (IntKind.u32.wrap (1 * 2 ^ t105.toNat)) = ji16 := shl_small hji16
             have hji16u : (IntKind.u32.wrap (2 ^ min t105.toNat 32)) = ji16 := by have h_ := hji16_; rw [Int.one_mul] at h_; exact h_
             have hji16v : t105 ≤ 32 → (IntKind.u32.wrap (2 ^ t105.toNat)) = ji16 := fun hle_ => by have h_ := hji16z hle_; rw [Int.one_mul] at h_; exact h_
             have H' := Aside0.mk H
             clear H
             have p104 : 0 ≤ (x20_2 : Int) := of_decide_eq_true (by first | (with_reducible assumption) | assumption)
             have q104 : x20_2 < (((rd_T48 l0_1 x13_1).f1).length : Int) := of_decide_eq_true (by first | (with_reducible assumption) | assumption)
             obtain ⟨ad104, e104, hx104_0⟩ := Kd.at_string HR102_1.out x20_2 p104 q104
             cases e104
             replace hx104_0 := (HB.out.cell (World.block_lt_of_cell? w _ hx104_0)).trans hx104_0
             replace p104 := eq_true p104
             replace q104 := eq_true q104
             have hnb17 := NB101_103.out
             have hnc17 := NB103_101.out
             have hcz18_0 : wr.cell? ⟨gb101, 0, none⟩ = some (.string a0_0) := (blk_cell BK101.out 0).trans rfl
             have hcz18_1 : wr.cell? ⟨gb101, 1, none⟩ = some (.slice (some ad102) l0_1.length c0_1) := (blk_cell BK101.out 1).trans rfl
             have hfz18_0 := blk_frozen BK101.out 0
             have hfz18_1 := blk_frozen BK101.out 1
             go_wp2_with (first | ((with_reducible refine gate_callee (f := 50) rfl ?_); refine goesL_ (some 26) rfl rfl Try.func50 (by kernel_rfl) rfl #[.agg #[.string a0_0, .slice (some ad102) l0_1.length c0_1], .string (rdOf ByteArray.empty ((rd_T48 l0_1 x13_1).f1) x20_2)] rfl ag ?_; (with_reducible refine (graph_Flow_find.calls a0_0 _ _ l0_1 (rdOf ByteArray.empty ((rd_T48 l0_1 x13_1).f1) x20_2) t105 _ ?side1 ?side2 A13.out).mono ?_); (case side1 => repeat (first | exact (Kd.C_below HR0_1.out HB.out) | (with_reducible refine Kd.C_alloc ?_ _) | (with_reducible refine Kd.C_drewN ?_ _) | (with_reducible refine Kd.C_drew ?_))); (case side2 => exact HC0_1.out); rintro e w19 ⟨rfl, hb⟩; refine ⟨_, rfl, ?_⟩; have n0_ := Aside0.mk (Kd.R_below (kR HO_3.out) hb); have n1_ := Aside0.mk (blk_below (rb BK101.out) hb); have n2_ := Aside0.mk (blk_below (rb BK103.out) hb); have n3_ := Aside0.mk (below_step bb hb); clear HO_3; clear BK101; clear BK103; clear HB; have HO_3 := n0_; have BK101 := n1_; have BK103 := n2_; have HB := n3_; clear n0_ n1_ n2_ n3_; (try clear hb); (try clear hb2); (try clear hk); (try clear hi)))
             go_roundg k2
             case measure => have := HK1.out; have := HK2.out; omega
             case rel => exact ⟨(Go.bits .or .u32 x6_2 (ji16)), (wrap64 (x20_2 + 1)), (by first | rfl | (simp; done) | (simp only [← hji16] <;> (first | rfl | simp)) | (simp [*]; done)), (by first | rfl | (simp; done) | (simp [*]; done)), H', ⟨by have := HK1.out; have := HK2.out; omega⟩, ⟨kR HO_3.out⟩, ⟨by (with_reducible repeat (first | refine blk_drewN ?_ _ | refine blk_drew ?_ | refine blk_alloc ?_ _)); exact BK101.out⟩, ⟨by (with_reducible repeat (first | refine blk_drewN ?_ _ | refine blk_drew ?_ | refine blk_alloc ?_ _)); exact BK103.out⟩, ⟨bb⟩⟩
            ·rw [if_neg c15] at H
             exact absurd H (by simp)
           ·rw [if_neg c14] at H
            have c14b0 : decide (0 ≤ t105) = false := decide_eq_false c14
            clear c14
            have H' := Aside0.mk H
            clear H
            have p104 : 0 ≤ (x20_2 : Int) := of_decide_eq_true (by first | (with_reducible assumption) | assumption)
            have q104 : x20_2 < (((rd_T48 l0_1 x13_1).f1).length : Int) := of_decide_eq_true (by first | (with_reducible assumption) | assumption)
            obtain ⟨ad104, e104, hx104_0⟩ := Kd.at_string HR102_1.out x20_2 p104 q104
            cases e104
            replace hx104_0 := (HB.out.cell (World.block_lt_of_cell? w _ hx104_0)).trans hx104_0
            replace p104 := eq_true p104
            replace q104 := eq_true q104
            have hnb20 := NB101_103.out
            have hnc20 := NB103_101.out
            have hcz21_0 : wr.cell? ⟨gb101, 0, none⟩ = some (.string a0_0) := (blk_cell BK101.out 0).trans rfl
            have hcz21_1 : wr.cell? ⟨gb101, 1, none⟩ = some (.slice (some ad102) l0_1.length c0_1) := (blk_cell BK101.out 1).trans rfl
            have hfz21_0 := blk_frozen BK101.out 0
            have hfz21_1 := blk_frozen BK101.out 1
            go_wp2_with (first | ((with_reducible refine gate_callee (f := 50) rfl ?_); refine goesL_ (some 26) rfl rfl Try.func50 (by kernel_rfl) rfl #[.agg #[.string a0_0, .slice (some ad102) l0_1.length c0_1], .string (rdOf ByteArray.empty ((rd_T48 l0_1 x13_1).f1) x20_2)] rfl ag ?_; (with_reducible refine (graph_Flow_find.calls a0_0 _ _ l0_1 (rdOf ByteArray.empty ((rd_T48 l0_1 x13_1).f1) x20_2) t105 _ ?side1 ?side2 A13.out).mono ?_); (case side1 => repeat (first | exact (Kd.C_below HR0_1.out HB.out) | (with_reducible refine Kd.C_alloc ?_ _) | (with_reducible refine Kd.C_drewN ?_ _) | (with_reducible refine Kd.C_drew ?_))); (case side2 => exact HC0_1.out); rintro e w22 ⟨rfl, hb⟩; refine ⟨_, rfl, ?_⟩; have n0_ := Aside0.mk (Kd.R_below (kR HO_3.out) hb); have n1_ := Aside0.mk (blk_below (rb BK101.out) hb); have n2_ := Aside0.mk (blk_below (rb BK103.out) hb); have n3_ := Aside0.mk (below_step bb hb); clear HO_3; clear BK101; clear BK103; clear HB; have HO_3 := n0_; have BK101 := n1_; have BK103 := n2_; have HB := n3_; clear n0_ n1_ n2_ n3_; (try clear hb); (try clear hb2); (try clear hk); (try clear hi)))
            go_roundg k2
            case measure => have := HK1.out; have := HK2.out; omega
            case rel => exact ⟨(x6_2), (wrap64 (x20_2 + 1)), (by first | rfl | (simp; done) | (simp [*]; done)), (by first | rfl | (simp; done) | (simp [*]; done)), H', ⟨by have := HK1.out; have := HK2.out; omega⟩, ⟨kR HO_3.out⟩, ⟨by (with_reducible repeat (first | refine blk_drewN ?_ _ | refine blk_drew ?_ | refine blk_alloc ?_ _)); exact BK101.out⟩, ⟨by (with_reducible repeat (first | refine blk_drewN ?_ _ | refine blk_drew ?_ | refine blk_alloc ?_ _)); exact BK103.out⟩, ⟨bb⟩⟩
          ·rw [if_neg c12] at H
           exact absurd H (by simp)
         ·rw [if_neg c11] at H
          exact absurd H (by simp)
        ·rw [if_neg c10] at H
         have c10b0 : decide (x20_2 < (((rd_T48 l0_1 x13_1).f1).length : Int)) = false := decide_eq_false c10
         clear c10
         by_cases c23 : x3_1.length < 35184372088832
         ·rw [if_pos c23] at H
          have LMc23 := Aside0.mk c23
          clear c23
          obtain ⟨y106, hy106⟩ : ∃ y_ : List Int, y_ = (x3_1 ++ [x6_2]) := ⟨_, rfl⟩
          replace H : (graph_Masks.l0 k2 y106 l0_1 (l0_1.length : Int) (wrap64 (x13_1 + 1)) a0_0 l0_1) = some r := by first | (rw [hy106]; with_reducible exact H) | (have H2_ := (Option.bind_some _ _).symm.trans H; rw [hy106]; with_reducible exact H2_) | (have H2_ := (Option.bind_some _ _).symm.trans H; with_reducible exact H2_) | with_reducible exact H | (rw [hy106]; exact H) | exact H
          have Ny106 := Aside0.mk hy106
          clear hy106
          have H' := Aside0.mk H
          clear H
          go_wp2_with (first | ((with_reducible refine gate_builtin (b := .append) (xs := #[.tmp 34, .tmp 36]) rfl ?_); at_builtin; refine Kd.R_append (Kd.int .u32) (w0 := w) w.heap.size rfl (.tmp 34) (.tmp 36) 40 43 (.int .u32 0) 4 rfl Try.underlying40 info43 rfl (by decide) (by omega) u3 x3_1 x6_2 [.int .u32 x6_2] (fun _ => True) (fun _ => False) rfl rfl ?aP (fun _ hk => hk.elim) ?aF ?aO ?aB ?aS ?aL ?_; (case aP => exact rfl); (case aB => exact bb); (case aF => exact (fun _ _ => trivial)); (case aO => exact (kR HO_3.out)); (case aS => exact (below_size bb)); (case aL => have := LMc23.out; omega); intro v107 w24 ho hb hg hat; rw [← Ny106.out] at ho; have n0_ := Aside0.mk (blk_grown (rb BK101.out) hg (Kd.R_ne HO_3.out BK101.out (by decide))); have n1_ := Aside0.mk (blk_grown (rb BK103.out) hg (Kd.R_ne HO_3.out BK103.out (by decide))); have n2_ := Aside0.mk (hb); have n3_ := Aside0.mk (ho); clear BK101; clear BK103; clear HB; clear HO_3; have BK101 := n0_; have BK103 := n1_; have HB := n2_; have HO108 := n3_; clear n0_ n1_ n2_ n3_; clear ho hb hg hat))
          go_roundg k2
          case measure => have := HK1.out; have := HK2.out; omega
          case rel => exact ⟨(y106), (wrap64 (x13_1 + 1)), (by first | rfl | (simp; done) | (simp [*]; done)), H', ⟨by have := HK1.out; have := HK2.out; omega⟩, ⟨kR HO108.out⟩, ⟨by (with_reducible repeat (first | refine blk_drewN ?_ _ | refine blk_drew ?_ | refine blk_alloc ?_ _)); exact BK101.out⟩, ⟨bb⟩⟩
         ·rw [if_neg c23] at H
          exact absurd H (by simp)
     ·rw [if_neg c6] at H
      exact absurd H (by simp)
    ·rw [if_neg c5] at H
     exact absurd H (by simp)
   ·rw [if_neg c4] at H
    have c4b0 : decide (x13_1 < (l0_1.length : Int)) = false := decide_eq_false c4
    clear c4
    obtain rfl := Option.some.inj H
    go_wp2
    go_ret
    exact ⟨_, by first | rfl | (simp [errW_none, errW_some] <;> rfl) | (simp [*, errW_none, errW_some] <;> rfl), kR HO_3.out, bb⟩

end Go.Proofs.Ytjicfkmpgogppaa.PG
