-- printed by a program of this session out of the translation; see NOTES.md
import Derived.Test.YtjicfkmpgogppaaPGx0
import Derived.Test.YtjicfkmpgogppaaRb
namespace Go.Proofs.Ytjicfkmpgogppaa.PG
open Go.RowKit Go.Proofs.YtjicfkmpgogppaaW.PrintWords Go.Proofs.YtjicfkmpgogppaaW.PrintLast Go.Proofs.YtjicfkmpgogppaaW.PrintMore Go.Proofs.YtjicfkmpgogppaaRb
attribute [local go_sem] max2_int min2_int max_two min_two max_three min_three max_four min_four   -- for this text's walks alone
set_option linter.unusedVariables false
set_option linter.unusedSimpArgs false

/-! ### graph_shaped: function 61 -/
mutual
def graph_shaped.j0 : Nat → List Int → Bool → Int → Int → ByteArray → List (S54) → Option (Bool)
 | 0, _, _, _, _, _, _ => none
 | k + 1, x1, x17, x263000, x263001, x263002, x263003 => if x17 = true then (some false) else (graph_shaped.l0 k x1 (x1.length : Int) 0 x263000 x263001 x263002 x263003)
def graph_shaped.l0 : Nat → List Int → Int → Int → Int → Int → ByteArray → List (S54) → Option (Bool)
 | 0, _, _, _, _, _, _, _ => none
 | k + 1, x18, x19, x20, x263000, x263001, x263002, x263003 => if x20 < x19 then (if 0 ≤ x20 then (if x20 < (x18.length : Int) then (if x20 < (x263003.length : Int) then (if ((rd_T54 x263003 x20).f0) = (rd x18 x20) then (graph_shaped.l0 k x18 x19 (wrap64 (x20 + 1)) x263000 x263001 x263002 x263003) else (some false)) else (none)) else (none)) else (none)) else (some true)
end
def graph_shaped.f (k : Nat) (a0_0 : Int) (a0_1 : Int) (a0_2 : ByteArray) (l0_3 : List (S54)) (l1 : List Int) : Option (Bool) := if a0_0 = 2 then (graph_shaped.j0 k l1 ((l0_3.length : Int) != (l1.length : Int)) a0_0 a0_1 a0_2 l0_3) else (graph_shaped.j0 k l1 true a0_0 a0_1 a0_2 l0_3)
theorem graph_shaped.mono_l : ∀ k, (∀ y0 y1 y2 y3 y4 y5, LeO (graph_shaped.j0 k y0 y1 y2 y3 y4 y5) (graph_shaped.j0 (k + 1) y0 y1 y2 y3 y4 y5)) ∧ (∀ y0 y1 y2 y3 y4 y5 y6, LeO (graph_shaped.l0 k y0 y1 y2 y3 y4 y5 y6) (graph_shaped.l0 (k + 1) y0 y1 y2 y3 y4 y5 y6))
 | 0 => ⟨fun _ _ _ _ _ _ r h => by simp [graph_shaped.j0] at h, fun _ _ _ _ _ _ _ r h => by simp [graph_shaped.l0] at h⟩
 | k + 1 => by
  obtain ⟨ih0, ih1⟩ := graph_shaped.mono_l k
  refine ⟨?_, ?_⟩
  ·intro y0 y1 y2 y3 y4 y5
   unfold graph_shaped.j0
   repeat' first
   | (with_reducible exact ih0 _ _ _ _ _ _)
   | (with_reducible exact ih1 _ _ _ _ _ _ _)
   | (with_reducible exact LeO.refl _)
   | (with_reducible exact LeO.none _)
   | (with_reducible refine LeO.ite ?_ ?_)
   | (with_reducible refine LeO.bind ?_ (fun _ => ?_))
   | exact ih0 _ _ _ _ _ _
   | exact ih1 _ _ _ _ _ _ _
   | exact LeO.none _
   | refine LeO.ite ?_ ?_
   | refine LeO.bind ?_ (fun _ => ?_)
  ·intro y0 y1 y2 y3 y4 y5 y6
   unfold graph_shaped.l0
   repeat' first
   | (with_reducible exact ih0 _ _ _ _ _ _)
   | (with_reducible exact ih1 _ _ _ _ _ _ _)
   | (with_reducible exact LeO.refl _)
   | (with_reducible exact LeO.none _)
   | (with_reducible refine LeO.ite ?_ ?_)
   | (with_reducible refine LeO.bind ?_ (fun _ => ?_))
   | exact ih0 _ _ _ _ _ _
   | exact ih1 _ _ _ _ _ _ _
   | exact LeO.none _
   | refine LeO.ite ?_ ?_
   | refine LeO.bind ?_ (fun _ => ?_)
theorem graph_shaped.mono : ∀ a0 a1 a2 a3 a4 k, LeO (graph_shaped.f k a0 a1 a2 a3 a4) (graph_shaped.f (k + 1) a0 a1 a2 a3 a4) := by
 intro a0 a1 a2 a3 a4 k
 obtain ⟨ih0, ih1⟩ := graph_shaped.mono_l k
 unfold graph_shaped.f
 repeat' first
   | (with_reducible exact ih0 _ _ _ _ _ _)
   | (with_reducible exact ih1 _ _ _ _ _ _ _)
   | (with_reducible exact LeO.refl _)
   | (with_reducible exact LeO.none _)
   | (with_reducible refine LeO.ite ?_ ?_)
   | (with_reducible refine LeO.bind ?_ (fun _ => ?_))
   | exact ih0 _ _ _ _ _ _
   | exact ih1 _ _ _ _ _ _ _
   | exact LeO.none _
   | refine LeO.ite ?_ ?_
   | refine LeO.bind ?_ (fun _ => ?_)
set_option maxHeartbeats 8000000 in
set_option maxRecDepth 100000 in
theorem graph_shaped.calls (k : Nat) (a0_0 : Int) (a0_1 : Int) (a0_2 : ByteArray) (A0_3 : Option Addr) (c0_3 : Nat) (l0_3 : List (S54)) (A1 : Option Addr) (c1 : Nat) (l1 : List Int) (r : Bool) (w : World) (hr0_3 : Kd.C k54 w A0_3 l0_3.length l0_3) (hc0_3 : l0_3.length ≤ c0_3) (hr1 : Kd.C (Kd.int .i64) w A1 l1.length l1) (hc1 : l1.length ≤ c1) (h : graph_shaped.f k a0_0 a0_1 a0_2 l0_3 l1 = some r) :
  Calls Try.prog 61 #[.agg #[.int .i64 a0_0, .int .i64 a0_1, .string a0_2, .slice A0_3 l0_3.length c0_3], .slice A1 l1.length c1] w fun e w' => e = .returned (.bool r) ∧ Below w.heap.size w w' := by
 have hu54 := Try.underlying54
 have HR0_3 := Aside0.mk hr0_3
 have HC0_3 := Aside0.mk hc0_3
 clear hr0_3 hc0_3
 have HR1 := Aside0.mk hr1
 have HC1 := Aside0.mk hc1
 clear hr1 hc1
 have HB := Aside0.mk (Below.refl w.heap.size w)
 have H : (if a0_0 = 2 then (graph_shaped.j0 k l1 ((l0_3.length : Int) != (l1.length : Int)) a0_0 a0_1 a0_2 l0_3) else (graph_shaped.j0 k l1 true a0_0 a0_1 a0_2 l0_3)) = some r := h
 clear h
 have HC3 := Aside0.mk H
 clear H
 go_enter Try.func61, Try.ntmps61
 go_upto_region 1 with (first | ((with_reducible refine gate_dst (N := 2) rfl ?_); (try (refine gate_guard (by rfl) ?_; dsimp only)); refine box_event ?hg (N := 2) ?hd (cs := #[.int .i64 a0_0, .int .i64 a0_1, .string a0_2, .slice A0_3 l0_3.length c0_3]) (t := 54) ?hr ?_; (case hd => rfl); (case hg => rfl); (case hr => first | (go_simp; done) | (go_simp; rfl)); intro gb262 hg w4 hbox hb; have n0_ := Aside0.mk (below_step bb hb); have n1_ := Aside0.mk (hbox); have n2_ := Aside0.mk ((by rw [hg]; exact (below_size bb) : w.heap.size ≤ gb262)); have n3_ := Aside0.mk ((by rw [hg]; exact (below_size bb) : w.heap.size ≤ gb262)); clear HB; have HB := n0_; have BK262 := n1_; have GW262 := n2_; have GE262 := n3_; clear n0_ n1_ n2_ n3_; clear hb hbox hg))
 (try simp only [Act.put, List.setIfInBounds_toArray, List.set_cons_zero, List.set_cons_succ])
 go_cut [17] (fun v17 wc => ∃ (kq : Nat) (x17_2 : Bool), v17 = .bool x17_2 ∧ Aside0 (graph_shaped.j0 kq l1 x17_2 a0_0 a0_1 a0_2 l0_3 = some r) ∧ Aside0 (kq ≤ k) ∧ Aside0 (wc.heap[gb262]? = some (.cells #[.int .i64 a0_0, .int .i64 a0_1, .string a0_2, (.slice A0_3 l0_3.length c0_3)] 54 (0, 0))) ∧ Aside0 (Below w.heap.size w wc))
 case first =>
  have H := HC3.out
  clear HC3
  by_cases c5 : a0_0 = 2
  ·rw [if_pos c5] at H
   have c5b0 : (a0_0 == 2) = true := beq_iff_eq.mpr c5
   have c5b1 : (a0_0 != 2) = false := bne_eq_false_iff_eq.mpr c5
   clear c5
   (first | rw [c5b0] | (simp only [i64_w, i32_w]; rw [c5b0]) | skip)
   have H' := Aside0.mk H
   clear H
   have hcz6_0 : w4.cell? ⟨gb262, 0, none⟩ = some (.int .i64 a0_0) := (blk_cell BK262.out 0).trans rfl
   have hcz6_1 : w4.cell? ⟨gb262, 1, none⟩ = some (.int .i64 a0_1) := (blk_cell BK262.out 1).trans rfl
   have hcz6_2 : w4.cell? ⟨gb262, 2, none⟩ = some (.string a0_2) := (blk_cell BK262.out 2).trans rfl
   have hcz6_3 : w4.cell? ⟨gb262, 3, none⟩ = some (.slice A0_3 l0_3.length c0_3) := (blk_cell BK262.out 3).trans rfl
   have hfz6_0 := blk_frozen BK262.out 0
   have hfz6_1 := blk_frozen BK262.out 1
   have hfz6_2 := blk_frozen BK262.out 2
   have hfz6_3 := blk_frozen BK262.out 3
   go_wp2
   go_meet
   case rel => exact ⟨_, (((l0_3.length : Int) != (l1.length : Int))), (by first | rfl | (simp; done) | (simp [*]; done)), H', ⟨by first | omega | exact Nat.le_refl _⟩, ⟨by (with_reducible repeat (first | refine blk_drewN ?_ _ | refine blk_drew ?_ | refine blk_alloc ?_ _)); exact BK262.out⟩, ⟨bb⟩⟩
  ·rw [if_neg c5] at H
   have c5b0 : (a0_0 == 2) = false := beq_eq_false_iff_ne.mpr c5
   have c5b1 : (a0_0 != 2) = true := bne_iff_ne.mpr c5
   (first | rw [c5b0] | (simp only [i64_w, i32_w]; rw [c5b0]) | skip)
   have H' := Aside0.mk H
   clear H
   have hcz7_0 : w4.cell? ⟨gb262, 0, none⟩ = some (.int .i64 a0_0) := (blk_cell BK262.out 0).trans rfl
   have hcz7_1 : w4.cell? ⟨gb262, 1, none⟩ = some (.int .i64 a0_1) := (blk_cell BK262.out 1).trans rfl
   have hcz7_2 : w4.cell? ⟨gb262, 2, none⟩ = some (.string a0_2) := (blk_cell BK262.out 2).trans rfl
   have hcz7_3 : w4.cell? ⟨gb262, 3, none⟩ = some (.slice A0_3 l0_3.length c0_3) := (blk_cell BK262.out 3).trans rfl
   have hfz7_0 := blk_frozen BK262.out 0
   have hfz7_1 := blk_frozen BK262.out 1
   have hfz7_2 := blk_frozen BK262.out 2
   have hfz7_3 := blk_frozen BK262.out 3
   go_wp2
   go_meet
   case rel => exact ⟨_, (true), (by first | rfl | (simp; done) | (simp [*]; done)), H', ⟨by first | omega | exact Nat.le_refl _⟩, ⟨by (with_reducible repeat (first | refine blk_drewN ?_ _ | refine blk_drew ?_ | refine blk_alloc ?_ _)); exact BK262.out⟩, ⟨bb⟩⟩
 case rest =>
  clear HC3
  try clear c1
  try clear p2
  try clear c5
  try clear c5b0
  try clear c5b1
  try clear c6
  try clear hcz6_0
  try clear hcz6_1
  try clear hcz6_2
  try clear hcz6_3
  try clear hcz7_0
  try clear hcz7_1
  try clear hcz7_2
  try clear hcz7_3
  try clear hfz6_0
  try clear hfz6_1
  try clear hfz6_2
  try clear hfz6_3
  try clear hfz7_0
  try clear hfz7_1
  try clear hfz7_2
  try clear hfz7_3
  obtain ⟨kq, x17_2, rfl, HA, HJ2, BK262, HB⟩ := hcut
  cases kq with
  | zero => exact absurd HA.out (by simp [graph_shaped.j0])
  | succ kj2 =>
   have H := HA.out
   clear HA
   simp only [graph_shaped.j0] at H
   by_cases c8 : x17_2 = true
   ·subst c8
    have H1 : (some false) = some r := by rw [if_pos rfl] at H; exact H
    clear H
    have H := H1
    clear H1
    obtain rfl := Option.some.inj H
    go_wp2
    go_ret
    exact ⟨by first | rfl | (simp [errW_none, errW_some] <;> rfl) | (simp [*, errW_none, errW_some] <;> rfl), bb⟩
   ·replace c8 := Bool.eq_false_iff.mpr c8
    subst c8
    have H1 : (graph_shaped.l0 kj2 l1 (l1.length : Int) 0 a0_0 a0_1 a0_2 l0_3) = some r := by rw [if_neg (show ¬ (false = true) by decide)] at H; exact H
    clear H
    have H := H1
    clear H1
    have H' := Aside0.mk H
    clear H
    go_wp2
    go_loopg [20] kj2 (fun kq v20 w' => ∃ (x20_2 : Int), v20 = .int .i64 x20_2 ∧ Aside0 (graph_shaped.l0 kq l1 (l1.length : Int) x20_2 a0_0 a0_1 a0_2 l0_3 = some r) ∧ Aside0 (kq ≤ kj2) ∧ Aside0 (w'.heap[gb262]? = some (.cells #[.int .i64 a0_0, .int .i64 a0_1, .string a0_2, (.slice A0_3 l0_3.length c0_3)] 54 (0, 0))) ∧ Aside0 (Below w.heap.size w w'))
    case atStart => exact ⟨(0), (by first | rfl | (simp; done) | (simp [*]; done)), H', ⟨Nat.le_refl _⟩, ⟨by (with_reducible repeat (first | refine blk_drewN ?_ _ | refine blk_drew ?_ | refine blk_alloc ?_ _)); exact BK262.out⟩, ⟨bb⟩⟩
    case round =>
     clear H'
     try clear c1
     try clear p2
     try clear c5
     try clear c5b0
     try clear c5b1
     try clear c6
     try clear c8
     try clear hcz6_0
     try clear hcz6_1
     try clear hcz6_2
     try clear hcz6_3
     try clear hcz7_0
     try clear hcz7_1
     try clear hcz7_2
     try clear hcz7_3
     try clear hfz6_0
     try clear hfz6_1
     try clear hfz6_2
     try clear hfz6_3
     try clear hfz7_0
     try clear hfz7_1
     try clear hfz7_2
     try clear hfz7_3
     try clear p2
     obtain ⟨x20_2, rfl, HA, HK2, BK262, HB⟩ := hrel
     cases gk with
     | zero => exact absurd HA.out (by simp [graph_shaped.l0])
     | succ k2 =>
      have H := HA.out
      clear HA
      simp only [graph_shaped.l0] at H
      by_cases c9 : x20_2 < (l1.length : Int)
      ·rw [if_pos c9] at H
       have c9b0 : decide (x20_2 < (l1.length : Int)) = true := decide_eq_true c9
       clear c9
       by_cases c10 : 0 ≤ x20_2
       ·rw [if_pos c10] at H
        have c10b0 : decide (0 ≤ x20_2) = true := decide_eq_true c10
        clear c10
        by_cases c11 : x20_2 < (l1.length : Int)
        ·rw [if_pos c11] at H
         have c11b0 : decide (x20_2 < (l1.length : Int)) = true := decide_eq_true c11
         clear c11
         by_cases c12 : x20_2 < (l0_3.length : Int)
         ·rw [if_pos c12] at H
          have c12b0 : decide (x20_2 < (l0_3.length : Int)) = true := decide_eq_true c12
          clear c12
          by_cases c13 : ((rd_T54 l0_3 x20_2).f0) = (rd l1 x20_2)
          ·rw [if_pos c13] at H
           have c13b0 : (((rd_T54 l0_3 x20_2).f0) == (rd l1 x20_2)) = true := beq_iff_eq.mpr c13
           have c13b1 : (((rd_T54 l0_3 x20_2).f0) != (rd l1 x20_2)) = false := bne_eq_false_iff_eq.mpr c13
           clear c13
           have H' := Aside0.mk H
           clear H
           have p263 : 0 ≤ (x20_2 : Int) := of_decide_eq_true (by first | (with_reducible assumption) | assumption)
           have q263 : x20_2 < (l1.length : Int) := of_decide_eq_true (by first | (with_reducible assumption) | assumption)
           obtain ⟨ad263, e263, hx263_0⟩ := Kd.at_int HR1.out x20_2 p263 q263
           cases e263
           replace hx263_0 := (HB.out.cell (World.block_lt_of_cell? w _ hx263_0)).trans hx263_0
           replace p263 := eq_true p263
           replace q263 := eq_true q263
           have hcz14_0 : wr.cell? ⟨gb262, 0, none⟩ = some (.int .i64 a0_0) := (blk_cell BK262.out 0).trans rfl
           have hcz14_1 : wr.cell? ⟨gb262, 1, none⟩ = some (.int .i64 a0_1) := (blk_cell BK262.out 1).trans rfl
           have hcz14_2 : wr.cell? ⟨gb262, 2, none⟩ = some (.string a0_2) := (blk_cell BK262.out 2).trans rfl
           have hcz14_3 : wr.cell? ⟨gb262, 3, none⟩ = some (.slice A0_3 l0_3.length c0_3) := (blk_cell BK262.out 3).trans rfl
           have hfz14_0 := blk_frozen BK262.out 0
           have hfz14_1 := blk_frozen BK262.out 1
           have hfz14_2 := blk_frozen BK262.out 2
           have hfz14_3 := blk_frozen BK262.out 3
           have p264 : 0 ≤ (x20_2 : Int) := of_decide_eq_true (by first | (with_reducible assumption) | assumption)
           have q264 : x20_2 < (l0_3.length : Int) := of_decide_eq_true (by first | (with_reducible assumption) | assumption)
           obtain ⟨ad264, A264_3, c264_3, e264, hx264_0, hx264_1, hx264_2, hx264_3, hl264_3, hi264_3⟩ := at_T54 HR0_3.out x20_2 p264 q264
           cases e264
           replace hx264_0 := (HB.out.cell (World.block_lt_of_cell? w _ hx264_0)).trans hx264_0
           replace hx264_1 := (HB.out.cell (World.block_lt_of_cell? w _ hx264_1)).trans hx264_1
           replace hx264_2 := (HB.out.cell (World.block_lt_of_cell? w _ hx264_2)).trans hx264_2
           replace hx264_3 := (HB.out.cell (World.block_lt_of_cell? w _ hx264_3)).trans hx264_3
           have HR264_3 := Aside0.mk hi264_3
           have HC264_3 := Aside0.mk hl264_3
           clear hi264_3 hl264_3
           replace p264 := eq_true p264
           replace q264 := eq_true q264
           go_wp2
           go_roundg k2
           case measure => have := HJ2.out; have := HK2.out; omega
           case rel => exact ⟨(wrap64 (x20_2 + 1)), (by first | rfl | (simp; done) | (simp [*]; done)), H', ⟨by have := HJ2.out; have := HK2.out; omega⟩, ⟨by (with_reducible repeat (first | refine blk_drewN ?_ _ | refine blk_drew ?_ | refine blk_alloc ?_ _)); exact BK262.out⟩, ⟨bb⟩⟩
          ·rw [if_neg c13] at H
           have c13b0 : (((rd_T54 l0_3 x20_2).f0) == (rd l1 x20_2)) = false := beq_eq_false_iff_ne.mpr c13
           have c13b1 : (((rd_T54 l0_3 x20_2).f0) != (rd l1 x20_2)) = true := bne_iff_ne.mpr c13
           obtain rfl := Option.some.inj H
           have p263 : 0 ≤ (x20_2 : Int) := of_decide_eq_true (by first | (with_reducible assumption) | assumption)
           have q263 : x20_2 < (l1.length : Int) := of_decide_eq_true (by first | (with_reducible assumption) | assumption)
           obtain ⟨ad263, e263, hx263_0⟩ := Kd.at_int HR1.out x20_2 p263 q263
           cases e263
           replace hx263_0 := (HB.out.cell (World.block_lt_of_cell? w _ hx263_0)).trans hx263_0
           replace p263 := eq_true p263
           replace q263 := eq_true q263
           have hcz15_0 : wr.cell? ⟨gb262, 0, none⟩ = some (.int .i64 a0_0) := (blk_cell BK262.out 0).trans rfl
           have hcz15_1 : wr.cell? ⟨gb262, 1, none⟩ = some (.int .i64 a0_1) := (blk_cell BK262.out 1).trans rfl
           have hcz15_2 : wr.cell? ⟨gb262, 2, none⟩ = some (.string a0_2) := (blk_cell BK262.out 2).trans rfl
           have hcz15_3 : wr.cell? ⟨gb262, 3, none⟩ = some (.slice A0_3 l0_3.length c0_3) := (blk_cell BK262.out 3).trans rfl
           have hfz15_0 := blk_frozen BK262.out 0
           have hfz15_1 := blk_frozen BK262.out 1
           have hfz15_2 := blk_frozen BK262.out 2
           have hfz15_3 := blk_frozen BK262.out 3
           have p264 : 0 ≤ (x20_2 : Int) := of_decide_eq_true (by first | (with_reducible assumption) | assumption)
           have q264 : x20_2 < (l0_3.length : Int) := of_decide_eq_true (by first | (with_reducible assumption) | assumption)
           obtain ⟨ad264, A264_3, c264_3, e264, hx264_0, hx264_1, hx264_2, hx264_3, hl264_3, hi264_3⟩ := at_T54 HR0_3.out x20_2 p264 q264
           cases e264
           replace hx264_0 := (HB.out.cell (World.block_lt_of_cell? w _ hx264_0)).trans hx264_0
           replace hx264_1 := (HB.out.cell (World.block_lt_of_cell? w _ hx264_1)).trans hx264_1
           replace hx264_2 := (HB.out.cell (World.block_lt_of_cell? w _ hx264_2)).trans hx264_2
           replace hx264_3 := (HB.out.cell (World.block_lt_of_cell? w _ hx264_3)).trans hx264_3
           have HR264_3 := Aside0.mk hi264_3
           have HC264_3 := Aside0.mk hl264_3
           clear hi264_3 hl264_3
           replace p264 := eq_true p264
           replace q264 := eq_true q264
           go_wp2
           go_ret
           exact ⟨by first | rfl | (simp [errW_none, errW_some] <;> rfl) | (simp [*, errW_none, errW_some] <;> rfl), bb⟩
         ·rw [if_neg c12] at H
          exact absurd H (by simp)
        ·rw [if_neg c11] at H
         exact absurd H (by simp)
       ·rw [if_neg c10] at H
        exact absurd H (by simp)
      ·rw [if_neg c9] at H
       have c9b0 : decide (x20_2 < (l1.length : Int)) = false := decide_eq_false c9
       clear c9
       obtain rfl := Option.some.inj H
       go_wp2
       go_ret
       exact ⟨by first | rfl | (simp [errW_none, errW_some] <;> rfl) | (simp [*, errW_none, errW_some] <;> rfl), bb⟩

/-! ### graph_small: function 93 -/
def graph_small.f (a0 : Int) : Option (Bool) := if a0 ≥ (-2147483648) then (some (decide (a0 ≤ 2147483647))) else (some false)
set_option maxHeartbeats 8000000 in
set_option maxRecDepth 100000 in
theorem graph_small.calls (a0 : Int) (r : Bool) (w : World) (h : graph_small.f a0 = some r) :
  Calls Try.prog 93 #[.int .i64 a0] w fun e w' => e = .returned (.bool r) ∧ Drawn0 w w' := by
 have H : (if a0 ≥ (-2147483648) then (some (decide (a0 ≤ 2147483647))) else (some false)) = some r := h
 clear h
 by_cases c2 : a0 ≥ (-2147483648)
 ·rw [if_pos c2] at H
  have c2b0 : decide ((-2147483648) ≤ a0) = true := decide_eq_true c2
  clear c2
  obtain rfl := Option.some.inj H
  go_enter Try.func93, Try.ntmps93
  go_wp2
  go_ret
  exact ⟨by first | rfl | (simp; done) | (simp [*]; done), by repeat (first | exact Drawn0.refl _ | apply Drawn0.step)⟩
 ·rw [if_neg c2] at H
  have c2b0 : decide ((-2147483648) ≤ a0) = false := decide_eq_false c2
  clear c2
  obtain rfl := Option.some.inj H
  go_enter Try.func93, Try.ntmps93
  go_wp2
  go_ret
  exact ⟨by first | rfl | (simp; done) | (simp [*]; done), by repeat (first | exact Drawn0.refl _ | apply Drawn0.step)⟩

end Go.Proofs.Ytjicfkmpgogppaa.PG
