-- printed by a program of this session out of the translation; see NOTES.md
import Derived.Test.YtjicfkmpgogppaaPOx0
import Derived.Test.YtjicfkmpgogppaaPOx20
import Derived.Test.YtjicfkmpgogppaaRb
namespace Go.Proofs.Ytjicfkmpgogppaa.PO
open Go.RowKit Go.Proofs.YtjicfkmpgogppaaW.PrintWords Go.Proofs.YtjicfkmpgogppaaW.PrintLast Go.Proofs.YtjicfkmpgogppaaW.PrintMore Go.Proofs.YtjicfkmpgogppaaRb
attribute [local go_sem] max2_int min2_int max_two min_two max_three min_three max_four min_four   -- for this text's walks alone
set_option linter.unusedVariables false
set_option linter.unusedSimpArgs false

/-! ### precinctref18_Told: function 37 -/
def precinctref18_Told.j0 : Nat → Bool → Int → Int → ByteArray → List (S57) → Option (Int × Int × Int × ByteArray × (List (S57)) × Int)
 | 0, _, _, _, _, _ => none
 | k + 1, x23, x421000, x421001, x421002, x421003 => if x23 = true then (some (0, 0, 0, (⟨#[]⟩ : ByteArray), ([] : List (S57)), 4)) else (if 0 < (x421003.length : Int) then (if ((rd_T57 x421003 0).f0) = 0 then (if ((rd_T57 x421003 0).f1) < 0 then (some (0, 0, 0, (⟨#[]⟩ : ByteArray), ([] : List (S57)), 4)) else (if ((rd_T57 x421003 0).f1) > 2147483647 then (some (0, 0, 0, (⟨#[]⟩ : ByteArray), ([] : List (S57)), 4)) else (if 1 < (x421003.length : Int) then (some ((rd_T57 x421003 0).f1, (rd_T57 x421003 1).f0, (rd_T57 x421003 1).f1, (rd_T57 x421003 1).f2, (rd_T57 x421003 1).f3, 0)) else (none)))) else (some (0, 0, 0, (⟨#[]⟩ : ByteArray), ([] : List (S57)), 4))) else (none))
def precinctref18_Told.f (k : Nat) (a0 : ByteArray) : Option (Int × Int × Int × ByteArray × (List (S57)) × Int) := (precinctref02_Get.f k a0).bind fun bt413 => (if bt413.2.2.2.2 = 0 then (if bt413.1 = 2 then (precinctref18_Told.j0 k ((bt413.2.2.2.1.length : Int) != 2) bt413.1 bt413.2.1 bt413.2.2.1 bt413.2.2.2.1) else (precinctref18_Told.j0 k true bt413.1 bt413.2.1 bt413.2.2.1 bt413.2.2.2.1)) else (some (0, 0, 0, (⟨#[]⟩ : ByteArray), ([] : List (S57)), bt413.2.2.2.2)))
theorem precinctref18_Told.mono_l : ∀ k, (∀ y0 y1 y2 y3 y4, LeO (precinctref18_Told.j0 k y0 y1 y2 y3 y4) (precinctref18_Told.j0 (k + 1) y0 y1 y2 y3 y4))
 | 0 => fun _ _ _ _ _ r h => by simp [precinctref18_Told.j0] at h
 | k + 1 => by
  have ih0 := precinctref18_Told.mono_l k
  ·intro y0 y1 y2 y3 y4
   unfold precinctref18_Told.j0
   repeat' first
   | (with_reducible exact ih0 _ _ _ _ _)
   | (with_reducible exact precinctref02_Get.mono _ _)
   | (with_reducible exact LeO.refl _)
   | (with_reducible exact LeO.none _)
   | (with_reducible refine LeO.ite ?_ ?_)
   | (with_reducible refine LeO.bind ?_ (fun _ => ?_))
   | exact ih0 _ _ _ _ _
   | exact precinctref02_Get.mono _ _
   | exact LeO.none _
   | refine LeO.ite ?_ ?_
   | refine LeO.bind ?_ (fun _ => ?_)
theorem precinctref18_Told.mono : ∀ a0 k, LeO (precinctref18_Told.f k a0) (precinctref18_Told.f (k + 1) a0) := by
 intro a0 k
 have ih0 := precinctref18_Told.mono_l k
 unfold precinctref18_Told.f
 repeat' first
   | (with_reducible exact ih0 _ _ _ _ _)
   | (with_reducible exact precinctref02_Get.mono _ _)
   | (with_reducible exact LeO.refl _)
   | (with_reducible exact LeO.none _)
   | (with_reducible refine LeO.ite ?_ ?_)
   | (with_reducible refine LeO.bind ?_ (fun _ => ?_))
   | exact ih0 _ _ _ _ _
   | exact precinctref02_Get.mono _ _
   | exact LeO.none _
   | refine LeO.ite ?_ ?_
   | refine LeO.bind ?_ (fun _ => ?_)
def precinctref18_Told.T8 : Bool × List (List Nat × List Nat) := (true, [([], []), ([0], [0]), ([1], [1]), ([2], [2]), ([3], [3]), ([], []), ([5], [5]), ([6], [6]), ([7], [7]), ([4, 8], [4, 8]), ([9, 0, 1, 2, 3, 4, 5, 6, 7, 8, 9], [9]), ([10, 0, 1, 2, 3, 4, 5, 6, 7, 8, 9, 10], [])])
def precinctref18_Told.B8 : List Nat := [0, 1, 3, 7, 15, 0, 32, 96, 224, 511, 1023, 2047]
theorem precinctref18_Told.tab8 : rtab .any (opsOf Try.f37 8) = precinctref18_Told.T8 := by kernel_rfl
theorem precinctref18_Told.bits8 : waitsOk precinctref18_Told.T8.2 precinctref18_Told.B8 = true := by kernel_rfl
set_option maxHeartbeats 8000000 in
set_option maxRecDepth 100000 in
theorem precinctref18_Told.calls (k : Nat) (a0 : ByteArray) (r1 : Int) (r2 : Int) (r3 : Int) (r4 : ByteArray) (r5 : List (S57)) (r6 : Int) (w : World) (h : precinctref18_Told.f k a0 = some (r1, r2, r3, r4, r5, r6)) :
  Calls Try.prog 37 #[.string a0] w fun e w' => ∃ v4_ : Value, e = .returned (.tuple #[.agg #[.int .i64 r1, .int .i64 r2, .int .i64 r3, .string r4, v4_], .int .i64 r6]) ∧ Kd.R k57 57 w' w.heap.size (fun _ => True) v4_ r5 ∧ Below w.heap.size w w' := by
 have hu86 := Try.underlying86
 have hu57 := Try.underlying57
 have HB := Aside0.mk (Below.refl w.heap.size w)
 have H : ((precinctref02_Get.f k a0).bind fun bt413 => (if bt413.2.2.2.2 = 0 then (if bt413.1 = 2 then (precinctref18_Told.j0 k ((bt413.2.2.2.1.length : Int) != 2) bt413.1 bt413.2.1 bt413.2.2.1 bt413.2.2.2.1) else (precinctref18_Told.j0 k true bt413.1 bt413.2.1 bt413.2.2.1 bt413.2.2.2.1)) else (some (0, 0, 0, (⟨#[]⟩ : ByteArray), ([] : List (S57)), bt413.2.2.2.2)))) = some (r1, r2, r3, r4, r5, r6) := h
 clear h
 replace H := Option.bind_eq_some_iff.mp H
 obtain ⟨⟨t413, t414, t415, t416, t419⟩, A20, H⟩ := H
 replace H : (if t419 = 0 then (if t413 = 2 then (precinctref18_Told.j0 k ((t416.length : Int) != 2) t413 t414 t415 t416) else (precinctref18_Told.j0 k true t413 t414 t415 t416)) else (some (0, 0, 0, (⟨#[]⟩ : ByteArray), ([] : List (S57)), t419))) = some (r1, r2, r3, r4, r5, r6) := H
 have A2 := Aside0.mk A20
 clear A20
 by_cases c3 : t419 = 0
 ·rw [if_pos c3] at H
  have c3b0 : (t419 == 0) = true := beq_iff_eq.mpr c3
  have c3b1 : (t419 != 0) = false := bne_eq_false_iff_eq.mpr c3
  clear c3
  have HC4 := Aside0.mk H
  clear H
  go_enter Try.func37, Try.ntmps37
  go_upto_region 4 with (first | ((with_reducible refine gate_dst (N := 2) rfl ?_); (try (refine gate_guard (by rfl) ?_; dsimp only)); refine box_event ?hg (N := 2) ?hd (cs := #[.int .i64 0, .int .i64 0, .int .i64 0, .string (⟨#[]⟩ : ByteArray), .slice none 0 0]) (t := 86) ?hr ?_; (case hd => rfl); (case hg => rfl); (case hr => first | (go_simp; done) | (go_simp; rfl)); intro gb412 hg w5 hbox hb; have n0_ := Aside0.mk (below_step bb hb); have n1_ := Aside0.mk (hbox); have n2_ := Aside0.mk ((by rw [hg]; exact (below_size bb) : w.heap.size ≤ gb412)); have n3_ := Aside0.mk ((by rw [hg]; exact (below_size bb) : w.heap.size ≤ gb412)); clear HB; have HB := n0_; have BK412 := n1_; have GW412 := n2_; have GE412 := n3_; clear n0_ n1_ n2_ n3_; clear hb hbox hg) | ((with_reducible refine gate_callee (f := 76) rfl ?_); refine goesL_ (some 8) rfl rfl Try.func76 (by kernel_rfl) rfl #[.string a0] rfl ag ?_; (with_reducible refine (precinctref02_Get.calls k a0 t413 t414 t415 t416 t419 _ A2.out).mono ?_); rintro e w6 ⟨v417, rfl, ho0, hb⟩; refine ⟨_, rfl, ?_⟩; have n0_ := Aside0.mk (Kd.R_lower ho0 (below_size bb)); have n1_ := Aside0.mk (blk_below (g := gb412) (o := .cells #[.int .i64 0, .int .i64 0, .int .i64 0, .string (⟨#[]⟩ : ByteArray), .slice none 0 0] 86 (0, 0)) (rb BK412.out) hb); have n2_ := Aside0.mk (below_step bb hb); clear BK412; clear HB; have HO418 := n0_; have BK412 := n1_; have HB := n2_; clear n0_ n1_ n2_; (try clear hb); (try clear hb2); (try clear hk); (try clear hi); (try clear ho0)) | ((with_reducible refine gate_dst (N := 4) rfl ?_); (try (refine gate_guard (by rfl) ?_; dsimp only)); refine box_event ?hg (N := 4) ?hd (cs := #[.int .i64 0, .int .i64 0, .string (⟨#[]⟩ : ByteArray), .slice none 0 0]) (t := 57) ?hr ?_; (case hd => rfl); (case hg => rfl); (case hr => first | (go_simp; done) | (go_simp; rfl)); intro gb420 hg w7 hbox hb; have n0_ := Aside0.mk (Kd.R_below (Kd.R_elderB (kR HO418.out) gb420 (Nat.le_of_eq hg.symm)) hb); have n1_ := Aside0.mk (blk_below (g := gb412) (o := .cells #[.int .i64 0, .int .i64 0, .int .i64 0, .string (⟨#[]⟩ : ByteArray), .slice none 0 0] 86 (0, 0)) (rb BK412.out) hb); have n2_ := Aside0.mk (below_step bb hb); have n3_ := Aside0.mk (hbox); have n4_ := Aside0.mk ((by rw [hg]; exact (below_size bb) : w.heap.size ≤ gb420)); have n5_ := Aside0.mk ((by rw [hg]; exact (below_size bb) : w.heap.size ≤ gb420)); have n6_ := Aside0.mk ((by rw [hg]; exact Nat.ne_of_lt (blk_lt (g := gb412) (o := .cells #[.int .i64 0, .int .i64 0, .int .i64 0, .string (⟨#[]⟩ : ByteArray), .slice none 0 0] 86 (0, 0)) (rb BK412.out)) : gb412 ≠ gb420)); have n7_ := Aside0.mk ((by rw [hg]; exact Nat.ne_of_gt (blk_lt (g := gb412) (o := .cells #[.int .i64 0, .int .i64 0, .int .i64 0, .string (⟨#[]⟩ : ByteArray), .slice none 0 0] 86 (0, 0)) (rb BK412.out)) : gb420 ≠ gb412)); clear HO418; clear BK412; clear HB; have HO418 := n0_; have BK412 := n1_; have HB := n2_; have BK420 := n3_; have GW420 := n4_; have GE420 := n5_; have NB412_420 := n6_; have NB420_412 := n7_; clear n0_ n1_ n2_ n3_ n4_ n5_ n6_ n7_; clear hb hbox hg; have hnb8 := NB420_412.out; have hnc8 := NB412_420.out; have hcz9_0 : w7.cell? ⟨gb420, 0, none⟩ = some (.int .i64 0) := (blk_cell BK420.out 0).trans rfl; have hcz9_1 : w7.cell? ⟨gb420, 1, none⟩ = some (.int .i64 0) := (blk_cell BK420.out 1).trans rfl; have hcz9_2 : w7.cell? ⟨gb420, 2, none⟩ = some (.string (⟨#[]⟩ : ByteArray)) := (blk_cell BK420.out 2).trans rfl; have hcz9_3 : w7.cell? ⟨gb420, 3, none⟩ = some (.slice none 0 0) := (blk_cell BK420.out 3).trans rfl; have hfz9_0 := blk_frozen BK420.out 0; have hfz9_1 := blk_frozen BK420.out 1; have hfz9_2 := blk_frozen BK420.out 2; have hfz9_3 := blk_frozen BK420.out 3; obtain ⟨Ao10, co10, eo10⟩ := Kd.R_slice HO418.out; subst eo10))
  (try simp only [Act.put, List.setIfInBounds_toArray, List.set_cons_zero, List.set_cons_succ])
  go_cut [23] (fun v23 wc => ∃ (kq : Nat) (x23_3 : Bool), v23 = .bool x23_3 ∧ Aside0 (precinctref18_Told.j0 kq x23_3 t413 t414 t415 t416 = some (r1, r2, r3, r4, r5, r6)) ∧ Aside0 (kq ≤ k) ∧ Aside0 (Kd.R k57 57 wc w.heap.size (fun k_ => k_ ≠ gb420) (.slice Ao10 t416.length co10) t416) ∧ Aside0 (wc.heap[gb412]? = some (.cells #[.int .i64 0, .int .i64 0, .int .i64 0, .string (⟨#[]⟩ : ByteArray), (.slice none 0 0)] 86 (0, 0))) ∧ Aside0 (wc.heap[gb420]? = some (.cells #[.int .i64 t413, .int .i64 t414, .string t415, (.slice Ao10 t416.length co10)] 57 (0, 0))) ∧ Aside0 (Below w.heap.size w wc))
  case first =>
   have H := HC4.out
   clear HC4
   by_cases c11 : t413 = 2
   ·rw [if_pos c11] at H
    have c11b0 : (t413 == 2) = true := beq_iff_eq.mpr c11
    have c11b1 : (t413 != 2) = false := bne_eq_false_iff_eq.mpr c11
    clear c11
    (first | rw [c11b0] | (simp only [i64_w, i32_w]; rw [c11b0]) | skip)
    have H' := Aside0.mk H
    clear H
    have hnb12 := NB420_412.out
    have hnc12 := NB412_420.out
    have hcz13_0 : w7.cell? ⟨gb420, 0, none⟩ = some (.int .i64 0) := (blk_cell BK420.out 0).trans rfl
    have hcz13_1 : w7.cell? ⟨gb420, 1, none⟩ = some (.int .i64 0) := (blk_cell BK420.out 1).trans rfl
    have hcz13_2 : w7.cell? ⟨gb420, 2, none⟩ = some (.string (⟨#[]⟩ : ByteArray)) := (blk_cell BK420.out 2).trans rfl
    have hcz13_3 : w7.cell? ⟨gb420, 3, none⟩ = some (.slice none 0 0) := (blk_cell BK420.out 3).trans rfl
    have hfz13_0 := blk_frozen BK420.out 0
    have hfz13_1 := blk_frozen BK420.out 1
    have hfz13_2 := blk_frozen BK420.out 2
    have hfz13_3 := blk_frozen BK420.out 3
    go_wp2
    go_meet
    case rel => exact ⟨_, (((t416.length : Int) != 2)), (by first | rfl | (simp; done) | (simp [*]; done)), H', ⟨by first | omega | exact Nat.le_refl _⟩, ⟨kR (Kd.R_mono (Kd.R_far (p := ⟨gb420, 3, none⟩) (Kd.R_far (p := ⟨gb420, 2, none⟩) (Kd.R_far (p := ⟨gb420, 1, none⟩) (Kd.R_far (p := ⟨gb420, 0, none⟩) (Kd.R_mono HO418.out (fun k_ hk => (⟨hk, hk.2⟩ : _ ∧ k_ ≠ gb420))) (fun _ hk => hk.2) (.int .i64 t413)) (fun _ hk => hk.2) (.int .i64 t414)) (fun _ hk => hk.2) (.string t415)) (fun _ hk => hk.2) (.slice Ao10 t416.length co10)) (fun _ hk => hk.1.2))⟩, ⟨by (with_reducible repeat (first | refine blk_drewN ?_ _ | refine blk_drew ?_ | refine blk_alloc ?_ _)); refine blk_far ?_ NB412_420.out _; (with_reducible repeat (first | refine blk_drewN ?_ _ | refine blk_drew ?_ | refine blk_alloc ?_ _)); refine blk_far ?_ NB412_420.out _; (with_reducible repeat (first | refine blk_drewN ?_ _ | refine blk_drew ?_ | refine blk_alloc ?_ _)); refine blk_far ?_ NB412_420.out _; (with_reducible repeat (first | refine blk_drewN ?_ _ | refine blk_drew ?_ | refine blk_alloc ?_ _)); refine blk_far ?_ NB412_420.out _; (with_reducible repeat (first | refine blk_drewN ?_ _ | refine blk_drew ?_ | refine blk_alloc ?_ _)); exact BK412.out⟩, ⟨by (with_reducible repeat (first | refine blk_drewN ?_ _ | refine blk_drew ?_ | refine blk_alloc ?_ _)); refine blk_put (cs := #[.int .i64 t413, .int .i64 t414, .string t415, .slice none 0 0]) ?_ 3 _ rfl; (with_reducible repeat (first | refine blk_drewN ?_ _ | refine blk_drew ?_ | refine blk_alloc ?_ _)); refine blk_put (cs := #[.int .i64 t413, .int .i64 t414, .string (⟨#[]⟩ : ByteArray), .slice none 0 0]) ?_ 2 _ rfl; (with_reducible repeat (first | refine blk_drewN ?_ _ | refine blk_drew ?_ | refine blk_alloc ?_ _)); refine blk_put (cs := #[.int .i64 t413, .int .i64 0, .string (⟨#[]⟩ : ByteArray), .slice none 0 0]) ?_ 1 _ rfl; (with_reducible repeat (first | refine blk_drewN ?_ _ | refine blk_drew ?_ | refine blk_alloc ?_ _)); refine blk_put (cs := #[.int .i64 0, .int .i64 0, .string (⟨#[]⟩ : ByteArray), .slice none 0 0]) ?_ 0 _ rfl; (with_reducible repeat (first | refine blk_drewN ?_ _ | refine blk_drew ?_ | refine blk_alloc ?_ _)); exact BK420.out⟩, ⟨bb⟩⟩
   ·rw [if_neg c11] at H
    have c11b0 : (t413 == 2) = false := beq_eq_false_iff_ne.mpr c11
    have c11b1 : (t413 != 2) = true := bne_iff_ne.mpr c11
    (first | rw [c11b0] | (simp only [i64_w, i32_w]; rw [c11b0]) | skip)
    have H' := Aside0.mk H
    clear H
    have hnb14 := NB420_412.out
    have hnc14 := NB412_420.out
    have hcz15_0 : w7.cell? ⟨gb420, 0, none⟩ = some (.int .i64 0) := (blk_cell BK420.out 0).trans rfl
    have hcz15_1 : w7.cell? ⟨gb420, 1, none⟩ = some (.int .i64 0) := (blk_cell BK420.out 1).trans rfl
    have hcz15_2 : w7.cell? ⟨gb420, 2, none⟩ = some (.string (⟨#[]⟩ : ByteArray)) := (blk_cell BK420.out 2).trans rfl
    have hcz15_3 : w7.cell? ⟨gb420, 3, none⟩ = some (.slice none 0 0) := (blk_cell BK420.out 3).trans rfl
    have hfz15_0 := blk_frozen BK420.out 0
    have hfz15_1 := blk_frozen BK420.out 1
    have hfz15_2 := blk_frozen BK420.out 2
    have hfz15_3 := blk_frozen BK420.out 3
    go_wp2
    go_meet
    case rel => exact ⟨_, (true), (by first | rfl | (simp; done) | (simp [*]; done)), H', ⟨by first | omega | exact Nat.le_refl _⟩, ⟨kR (Kd.R_mono (Kd.R_far (p := ⟨gb420, 3, none⟩) (Kd.R_far (p := ⟨gb420, 2, none⟩) (Kd.R_far (p := ⟨gb420, 1, none⟩) (Kd.R_far (p := ⟨gb420, 0, none⟩) (Kd.R_mono HO418.out (fun k_ hk => (⟨hk, hk.2⟩ : _ ∧ k_ ≠ gb420))) (fun _ hk => hk.2) (.int .i64 t413)) (fun _ hk => hk.2) (.int .i64 t414)) (fun _ hk => hk.2) (.string t415)) (fun _ hk => hk.2) (.slice Ao10 t416.length co10)) (fun _ hk => hk.1.2))⟩, ⟨by (with_reducible repeat (first | refine blk_drewN ?_ _ | refine blk_drew ?_ | refine blk_alloc ?_ _)); refine blk_far ?_ NB412_420.out _; (with_reducible repeat (first | refine blk_drewN ?_ _ | refine blk_drew ?_ | refine blk_alloc ?_ _)); refine blk_far ?_ NB412_420.out _; (with_reducible repeat (first | refine blk_drewN ?_ _ | refine blk_drew ?_ | refine blk_alloc ?_ _)); refine blk_far ?_ NB412_420.out _; (with_reducible repeat (first | refine blk_drewN ?_ _ | refine blk_drew ?_ | refine blk_alloc ?_ _)); refine blk_far ?_ NB412_420.out _; (with_reducible repeat (first | refine blk_drewN ?_ _ | refine blk_drew ?_ | refine blk_alloc ?_ _)); exact BK412.out⟩, ⟨by (with_reducible repeat (first | refine blk_drewN ?_ _ | refine blk_drew ?_ | refine blk_alloc ?_ _)); refine blk_put (cs := #[.int .i64 t413, .int .i64 t414, .string t415, .slice none 0 0]) ?_ 3 _ rfl; (with_reducible repeat (first | refine blk_drewN ?_ _ | refine blk_drew ?_ | refine blk_alloc ?_ _)); refine blk_put (cs := #[.int .i64 t413, .int .i64 t414, .string (⟨#[]⟩ : ByteArray), .slice none 0 0]) ?_ 2 _ rfl; (with_reducible repeat (first | refine blk_drewN ?_ _ | refine blk_drew ?_ | refine blk_alloc ?_ _)); refine blk_put (cs := #[.int .i64 t413, .int .i64 0, .string (⟨#[]⟩ : ByteArray), .slice none 0 0]) ?_ 1 _ rfl; (with_reducible repeat (first | refine blk_drewN ?_ _ | refine blk_drew ?_ | refine blk_alloc ?_ _)); refine blk_put (cs := #[.int .i64 0, .int .i64 0, .string (⟨#[]⟩ : ByteArray), .slice none 0 0]) ?_ 0 _ rfl; (with_reducible repeat (first | refine blk_drewN ?_ _ | refine blk_drew ?_ | refine blk_alloc ?_ _)); exact BK420.out⟩, ⟨bb⟩⟩
  case rest =>
   clear HC4
   try clear c1
   try clear p2
   try clear c3
   try clear c3b0
   try clear c3b1
   try clear c7
   try clear c8
   try clear c11
   try clear c11b0
   try clear c11b1
   try clear c12
   try clear c14
   try clear hcz13_0
   try clear hcz13_1
   try clear hcz13_2
   try clear hcz13_3
   try clear hcz15_0
   try clear hcz15_1
   try clear hcz15_2
   try clear hcz15_3
   try clear hcz9_0
   try clear hcz9_1
   try clear hcz9_2
   try clear hcz9_3
   try clear hfz13_0
   try clear hfz13_1
   try clear hfz13_2
   try clear hfz13_3
   try clear hfz15_0
   try clear hfz15_1
   try clear hfz15_2
   try clear hfz15_3
   try clear hfz9_0
   try clear hfz9_1
   try clear hfz9_2
   try clear hfz9_3
   obtain ⟨kq, x23_3, rfl, HA, HJ3, HO_421003, BK412, BK420, HB⟩ := hcut
   cases kq with
   | zero => exact absurd HA.out (by simp [precinctref18_Told.j0])
   | succ kj3 =>
    have H := HA.out
    clear HA
    simp only [precinctref18_Told.j0] at H
    by_cases c16 : x23_3 = true
    ·subst c16
     have H1 : (some (0, 0, 0, (⟨#[]⟩ : ByteArray), ([] : List (S57)), 4)) = some (r1, r2, r3, r4, r5, r6) := by rw [if_pos rfl] at H; exact H
     clear H
     have H := H1
     clear H1
     simp only [Option.some.injEq, Prod.mk.injEq] at H
     obtain ⟨rfl, rfl, rfl, rfl, rfl, rfl⟩ := H
     have hnb17 := NB412_420.out
     have hnc17 := NB420_412.out
     have hcz18_0 : wc.cell? ⟨gb412, 0, none⟩ = some (.int .i64 0) := (blk_cell BK412.out 0).trans rfl
     have hcz18_1 : wc.cell? ⟨gb412, 1, none⟩ = some (.int .i64 0) := (blk_cell BK412.out 1).trans rfl
     have hcz18_2 : wc.cell? ⟨gb412, 2, none⟩ = some (.int .i64 0) := (blk_cell BK412.out 2).trans rfl
     have hcz18_3 : wc.cell? ⟨gb412, 3, none⟩ = some (.string (⟨#[]⟩ : ByteArray)) := (blk_cell BK412.out 3).trans rfl
     have hcz18_4 : wc.cell? ⟨gb412, 4, none⟩ = some (.slice none 0 0) := (blk_cell BK412.out 4).trans rfl
     have hfz18_0 := blk_frozen BK412.out 0
     have hfz18_1 := blk_frozen BK412.out 1
     have hfz18_2 := blk_frozen BK412.out 2
     have hfz18_3 := blk_frozen BK412.out 3
     have hfz18_4 := blk_frozen BK412.out 4
     go_wp2
     refine bodyPost_ret (results_ct rfl _ _ gb412 86 #[.int .i64 0, .int .i64 0, .int .i64 0, .string (⟨#[]⟩ : ByteArray), .slice none 0 0] (0, 0) _ rfl (rb (blk_put (cs := #[.int .i64 0, .int .i64 0, .int .i64 0, .string (⟨#[]⟩ : ByteArray), .slice none 0 0]) (rb (blk_put (cs := #[.int .i64 0, .int .i64 0, .int .i64 0, .string (⟨#[]⟩ : ByteArray), .slice none 0 0]) (rb (blk_put (cs := #[.int .i64 0, .int .i64 0, .int .i64 0, .string (⟨#[]⟩ : ByteArray), .slice none 0 0]) (rb (blk_put (cs := #[.int .i64 0, .int .i64 0, .int .i64 0, .string (⟨#[]⟩ : ByteArray), .slice none 0 0]) (rb (blk_put (cs := #[.int .i64 0, .int .i64 0, .int .i64 0, .string (⟨#[]⟩ : ByteArray), .slice none 0 0]) (rb BK412.out) 0 _ rfl)) 1 _ rfl)) 2 _ rfl)) 3 _ rfl)) 4 _ rfl)) Try.underlying86 rfl (by kernel_rfl)) rfl ?_
     exact ⟨_, by first | rfl | (simp [errW_none, errW_some] <;> rfl) | (simp [*, errW_none, errW_some] <;> rfl), kn, bb⟩
    ·replace c16 := Bool.eq_false_iff.mpr c16
     subst c16
     have H1 : (if 0 < (t416.length : Int) then (if ((rd_T57 t416 0).f0) = 0 then (if ((rd_T57 t416 0).f1) < 0 then (some (0, 0, 0, (⟨#[]⟩ : ByteArray), ([] : List (S57)), 4)) else (if ((rd_T57 t416 0).f1) > 2147483647 then (some (0, 0, 0, (⟨#[]⟩ : ByteArray), ([] : List (S57)), 4)) else (if 1 < (t416.length : Int) then (some ((rd_T57 t416 0).f1, (rd_T57 t416 1).f0, (rd_T57 t416 1).f1, (rd_T57 t416 1).f2, (rd_T57 t416 1).f3, 0)) else (none)))) else (some (0, 0, 0, (⟨#[]⟩ : ByteArray), ([] : List (S57)), 4))) else (none)) = some (r1, r2, r3, r4, r5, r6) := by rw [if_neg (show ¬ (false = true) by decide)] at H; exact H
     clear H
     have H := H1
     clear H1
     by_cases c19 : 0 < (t416.length : Int)
     ·rw [if_pos c19] at H
      have c19b0 : decide (0 < (t416.length : Int)) = true := decide_eq_true c19
      have c19b1 : decide (0 < t416.length) = true := decide_eq_true (by omega)
      clear c19
      by_cases c20 : ((rd_T57 t416 0).f0) = 0
      ·rw [if_pos c20] at H
       have c20b0 : (((rd_T57 t416 0).f0) == 0) = true := beq_iff_eq.mpr c20
       have c20b1 : (((rd_T57 t416 0).f0) != 0) = false := bne_eq_false_iff_eq.mpr c20
       clear c20
       by_cases c21 : ((rd_T57 t416 0).f1) < 0
       ·rw [if_pos c21] at H
        have c21b0 : decide (((rd_T57 t416 0).f1) < 0) = true := decide_eq_true c21
        clear c21
        simp only [Option.some.injEq, Prod.mk.injEq] at H
        obtain ⟨rfl, rfl, rfl, rfl, rfl, rfl⟩ := H
        have hnb22 := NB420_412.out
        have hnc22 := NB412_420.out
        have hcz23_0 : wc.cell? ⟨gb420, 0, none⟩ = some (.int .i64 t413) := (blk_cell BK420.out 0).trans rfl
        have hcz23_1 : wc.cell? ⟨gb420, 1, none⟩ = some (.int .i64 t414) := (blk_cell BK420.out 1).trans rfl
        have hcz23_2 : wc.cell? ⟨gb420, 2, none⟩ = some (.string t415) := (blk_cell BK420.out 2).trans rfl
        have hcz23_3 : wc.cell? ⟨gb420, 3, none⟩ = some (.slice Ao10 t416.length co10) := (blk_cell BK420.out 3).trans rfl
        have hfz23_0 := blk_frozen BK420.out 0
        have hfz23_1 := blk_frozen BK420.out 1
        have hfz23_2 := blk_frozen BK420.out 2
        have hfz23_3 := blk_frozen BK420.out 3
        have p421 : 0 ≤ (0 : Int) := (by omega)
        have q421 : 0 < (t416.length : Int) := of_decide_eq_true (by first | (with_reducible assumption) | assumption)
        obtain ⟨ad421, A421_3, c421_3, e421, hx421_0, hx421_1, hx421_2, hx421_3, hl421_3, hi421_3⟩ := at_T57 (Kd.R_reads' HO_421003.out).2.2 0 p421 q421
        cases e421
        obtain ⟨ce421, hce421, hMe421, hcc421⟩ := Kd.R_get HO_421003.out z57 0 p421 (by first | exact q421 | exact of_decide_eq_true (by first | (with_reducible assumption) | assumption) | (have e_ := (Kd.R_reads' HO_421003.out).1; omega))
        obtain ⟨ve421_3, rfl, ge421_3⟩ := k57_openM hMe421
        have hv421_3 := hcc421 3 _ rfl
        rw [add_field _ _ 3 (by omega)] at hv421_3
        replace hv421_3 := Option.some.inj (hv421_3.symm.trans hx421_3)
        rw [hv421_3] at ge421_3
        have HL421_3 := Aside0.mk (show Kd.R k57 57 _ _ _ _ ((rd_T57 t416 0).f3) from ge421_3)
        clear hv421_3 ge421_3
        clear hcc421 hce421
        have qi421 : (0 < t416.length) = True := eq_true (by omega)
        (try rw [show ((0 : Int)).toNat = 0 from rfl] at hx421_0)
        (try rw [show 0 * 4 = 0 from rfl] at hx421_0)
        (try rw [Addr.add_zero'] at hx421_0)
        (try rw [show ((0 : Int)).toNat = 0 from rfl] at hx421_1)
        (try rw [show 0 * 4 = 0 from rfl] at hx421_1)
        (try rw [Addr.add_zero'] at hx421_1)
        (try rw [show ((0 : Int)).toNat = 0 from rfl] at hx421_2)
        (try rw [show 0 * 4 = 0 from rfl] at hx421_2)
        (try rw [Addr.add_zero'] at hx421_2)
        (try rw [show ((0 : Int)).toNat = 0 from rfl] at hx421_3)
        (try rw [show 0 * 4 = 0 from rfl] at hx421_3)
        (try rw [Addr.add_zero'] at hx421_3)
        have HR421_3 := Aside0.mk hi421_3
        have HC421_3 := Aside0.mk hl421_3
        clear hi421_3 hl421_3
        replace p421 := eq_true p421
        replace q421 := eq_true q421
        have p422 : 0 ≤ (0 : Int) := (by omega)
        have q422 : 0 < (t416.length : Int) := of_decide_eq_true (by first | (with_reducible assumption) | assumption)
        obtain ⟨ad422, A422_3, c422_3, e422, hx422_0, hx422_1, hx422_2, hx422_3, hl422_3, hi422_3⟩ := at_T57 (Kd.R_reads' HO_421003.out).2.2 0 p422 q422
        obtain rfl : ad421 = ad422 := (by injection e422)
        obtain ⟨ce422, hce422, hMe422, hcc422⟩ := Kd.R_get HO_421003.out z57 0 p422 (by first | exact q422 | exact of_decide_eq_true (by first | (with_reducible assumption) | assumption) | (have e_ := (Kd.R_reads' HO_421003.out).1; omega))
        obtain ⟨ve422_3, rfl, ge422_3⟩ := k57_openM hMe422
        have hv422_3 := hcc422 3 _ rfl
        rw [add_field _ _ 3 (by omega)] at hv422_3
        replace hv422_3 := Option.some.inj (hv422_3.symm.trans hx422_3)
        rw [hv422_3] at ge422_3
        have HL422_3 := Aside0.mk (show Kd.R k57 57 _ _ _ _ ((rd_T57 t416 0).f3) from ge422_3)
        clear hv422_3 ge422_3
        clear hcc422 hce422
        have qi422 : (0 < t416.length) = True := eq_true (by omega)
        (try rw [show ((0 : Int)).toNat = 0 from rfl] at hx422_0)
        (try rw [show 0 * 4 = 0 from rfl] at hx422_0)
        (try rw [Addr.add_zero'] at hx422_0)
        (try rw [show ((0 : Int)).toNat = 0 from rfl] at hx422_1)
        (try rw [show 0 * 4 = 0 from rfl] at hx422_1)
        (try rw [Addr.add_zero'] at hx422_1)
        (try rw [show ((0 : Int)).toNat = 0 from rfl] at hx422_2)
        (try rw [show 0 * 4 = 0 from rfl] at hx422_2)
        (try rw [Addr.add_zero'] at hx422_2)
        (try rw [show ((0 : Int)).toNat = 0 from rfl] at hx422_3)
        (try rw [show 0 * 4 = 0 from rfl] at hx422_3)
        (try rw [Addr.add_zero'] at hx422_3)
        have HR422_3 := Aside0.mk hi422_3
        have HC422_3 := Aside0.mk hl422_3
        clear hi422_3 hl422_3
        replace p422 := eq_true p422
        replace q422 := eq_true q422
        have ea_ := Option.some.inj (hx421_3.symm.trans hx422_3)
        injection ea_ with ea_ en_ ec_
        subst ea_
        subst ec_
        clear en_
        have hcz24_0 : wc.cell? ⟨gb412, 0, none⟩ = some (.int .i64 0) := (blk_cell BK412.out 0).trans rfl
        have hcz24_1 : wc.cell? ⟨gb412, 1, none⟩ = some (.int .i64 0) := (blk_cell BK412.out 1).trans rfl
        have hcz24_2 : wc.cell? ⟨gb412, 2, none⟩ = some (.int .i64 0) := (blk_cell BK412.out 2).trans rfl
        have hcz24_3 : wc.cell? ⟨gb412, 3, none⟩ = some (.string (⟨#[]⟩ : ByteArray)) := (blk_cell BK412.out 3).trans rfl
        have hcz24_4 : wc.cell? ⟨gb412, 4, none⟩ = some (.slice none 0 0) := (blk_cell BK412.out 4).trans rfl
        have hfz24_0 := blk_frozen BK412.out 0
        have hfz24_1 := blk_frozen BK412.out 1
        have hfz24_2 := blk_frozen BK412.out 2
        have hfz24_3 := blk_frozen BK412.out 3
        have hfz24_4 := blk_frozen BK412.out 4
        go_wp2
        refine bodyPost_ret (results_ct rfl _ _ gb412 86 #[.int .i64 0, .int .i64 0, .int .i64 0, .string (⟨#[]⟩ : ByteArray), .slice none 0 0] (0, 0) _ rfl (rb (blk_put (cs := #[.int .i64 0, .int .i64 0, .int .i64 0, .string (⟨#[]⟩ : ByteArray), .slice none 0 0]) (rb (blk_put (cs := #[.int .i64 0, .int .i64 0, .int .i64 0, .string (⟨#[]⟩ : ByteArray), .slice none 0 0]) (rb (blk_put (cs := #[.int .i64 0, .int .i64 0, .int .i64 0, .string (⟨#[]⟩ : ByteArray), .slice none 0 0]) (rb (blk_put (cs := #[.int .i64 0, .int .i64 0, .int .i64 0, .string (⟨#[]⟩ : ByteArray), .slice none 0 0]) (rb (blk_put (cs := #[.int .i64 0, .int .i64 0, .int .i64 0, .string (⟨#[]⟩ : ByteArray), .slice none 0 0]) (rb BK412.out) 0 _ rfl)) 1 _ rfl)) 2 _ rfl)) 3 _ rfl)) 4 _ rfl)) Try.underlying86 rfl (by kernel_rfl)) rfl ?_
        exact ⟨_, by first | rfl | (simp [errW_none, errW_some] <;> rfl) | (simp [*, errW_none, errW_some] <;> rfl), kn, bb⟩
       ·rw [if_neg c21] at H
        have c21b0 : decide (((rd_T57 t416 0).f1) < 0) = false := decide_eq_false c21
        clear c21
        by_cases c25 : ((rd_T57 t416 0).f1) > 2147483647
        ·rw [if_pos c25] at H
         have c25b0 : decide (2147483647 < ((rd_T57 t416 0).f1)) = true := decide_eq_true c25
         clear c25
         simp only [Option.some.injEq, Prod.mk.injEq] at H
         obtain ⟨rfl, rfl, rfl, rfl, rfl, rfl⟩ := H
         have hnb26 := NB420_412.out
         have hnc26 := NB412_420.out
         have hcz27_0 : wc.cell? ⟨gb420, 0, none⟩ = some (.int .i64 t413) := (blk_cell BK420.out 0).trans rfl
         have hcz27_1 : wc.cell? ⟨gb420, 1, none⟩ = some (.int .i64 t414) := (blk_cell BK420.out 1).trans rfl
         have hcz27_2 : wc.cell? ⟨gb420, 2, none⟩ = some (.string t415) := (blk_cell BK420.out 2).trans rfl
         have hcz27_3 : wc.cell? ⟨gb420, 3, none⟩ = some (.slice Ao10 t416.length co10) := (blk_cell BK420.out 3).trans rfl
         have hfz27_0 := blk_frozen BK420.out 0
         have hfz27_1 := blk_frozen BK420.out 1
         have hfz27_2 := blk_frozen BK420.out 2
         have hfz27_3 := blk_frozen BK420.out 3
         have p421 : 0 ≤ (0 : Int) := (by omega)
         have q421 : 0 < (t416.length : Int) := of_decide_eq_true (by first | (with_reducible assumption) | assumption)
         obtain ⟨ad421, A421_3, c421_3, e421, hx421_0, hx421_1, hx421_2, hx421_3, hl421_3, hi421_3⟩ := at_T57 (Kd.R_reads' HO_421003.out).2.2 0 p421 q421
         cases e421
         obtain ⟨ce421, hce421, hMe421, hcc421⟩ := Kd.R_get HO_421003.out z57 0 p421 (by first | exact q421 | exact of_decide_eq_true (by first | (with_reducible assumption) | assumption) | (have e_ := (Kd.R_reads' HO_421003.out).1; omega))
         obtain ⟨ve421_3, rfl, ge421_3⟩ := k57_openM hMe421
         have hv421_3 := hcc421 3 _ rfl
         rw [add_field _ _ 3 (by omega)] at hv421_3
         replace hv421_3 := Option.some.inj (hv421_3.symm.trans hx421_3)
         rw [hv421_3] at ge421_3
         have HL421_3 := Aside0.mk (show Kd.R k57 57 _ _ _ _ ((rd_T57 t416 0).f3) from ge421_3)
         clear hv421_3 ge421_3
         clear hcc421 hce421
         have qi421 : (0 < t416.length) = True := eq_true (by omega)
         (try rw [show ((0 : Int)).toNat = 0 from rfl] at hx421_0)
         (try rw [show 0 * 4 = 0 from rfl] at hx421_0)
         (try rw [Addr.add_zero'] at hx421_0)
         (try rw [show ((0 : Int)).toNat = 0 from rfl] at hx421_1)
         (try rw [show 0 * 4 = 0 from rfl] at hx421_1)
         (try rw [Addr.add_zero'] at hx421_1)
         (try rw [show ((0 : Int)).toNat = 0 from rfl] at hx421_2)
         (try rw [show 0 * 4 = 0 from rfl] at hx421_2)
         (try rw [Addr.add_zero'] at hx421_2)
         (try rw [show ((0 : Int)).toNat = 0 from rfl] at hx421_3)
         (try rw [show 0 * 4 = 0 from rfl] at hx421_3)
         (try rw [Addr.add_zero'] at hx421_3)
         have HR421_3 := Aside0.mk hi421_3
         have HC421_3 := Aside0.mk hl421_3
         clear hi421_3 hl421_3
         replace p421 := eq_true p421
         replace q421 := eq_true q421
         have p422 : 0 ≤ (0 : Int) := (by omega)
         have q422 : 0 < (t416.length : Int) := of_decide_eq_true (by first | (with_reducible assumption) | assumption)
         obtain ⟨ad422, A422_3, c422_3, e422, hx422_0, hx422_1, hx422_2, hx422_3, hl422_3, hi422_3⟩ := at_T57 (Kd.R_reads' HO_421003.out).2.2 0 p422 q422
         obtain rfl : ad421 = ad422 := (by injection e422)
         obtain ⟨ce422, hce422, hMe422, hcc422⟩ := Kd.R_get HO_421003.out z57 0 p422 (by first | exact q422 | exact of_decide_eq_true (by first | (with_reducible assumption) | assumption) | (have e_ := (Kd.R_reads' HO_421003.out).1; omega))
         obtain ⟨ve422_3, rfl, ge422_3⟩ := k57_openM hMe422
         have hv422_3 := hcc422 3 _ rfl
         rw [add_field _ _ 3 (by omega)] at hv422_3
         replace hv422_3 := Option.some.inj (hv422_3.symm.trans hx422_3)
         rw [hv422_3] at ge422_3
         have HL422_3 := Aside0.mk (show Kd.R k57 57 _ _ _ _ ((rd_T57 t416 0).f3) from ge422_3)
         clear hv422_3 ge422_3
         clear hcc422 hce422
         have qi422 : (0 < t416.length) = True := eq_true (by omega)
         (try rw [show ((0 : Int)).toNat = 0 from rfl] at hx422_0)
         (try rw [show 0 * 4 = 0 from rfl] at hx422_0)
         (try rw [Addr.add_zero'] at hx422_0)
         (try rw [show ((0 : Int)).toNat = 0 from rfl] at hx422_1)
         (try rw [show 0 * 4 = 0 from rfl] at hx422_1)
         (try rw [Addr.add_zero'] at hx422_1)
         (try rw [show ((0 : Int)).toNat = 0 from rfl] at hx422_2)
         (try rw [show 0 * 4 = 0 from rfl] at hx422_2)
         (try rw [Addr.add_zero'] at hx422_2)
         (try rw [show ((0 : Int)).toNat = 0 from rfl] at hx422_3)
         (try rw [show 0 * 4 = 0 from rfl] at hx422_3)
         (try rw [Addr.add_zero'] at hx422_3)
         have HR422_3 := Aside0.mk hi422_3
         have HC422_3 := Aside0.mk hl422_3
         clear hi422_3 hl422_3
         replace p422 := eq_true p422
         replace q422 := eq_true q422
         have ea_ := Option.some.inj (hx421_3.symm.trans hx422_3)
         injection ea_ with ea_ en_ ec_
         subst ea_
         subst ec_
         clear en_
         have p423 : 0 ≤ (0 : Int) := (by omega)
         have q423 : 0 < (t416.length : Int) := of_decide_eq_true (by first | (with_reducible assumption) | assumption)
         obtain ⟨ad423, A423_3, c423_3, e423, hx423_0, hx423_1, hx423_2, hx423_3, hl423_3, hi423_3⟩ := at_T57 (Kd.R_reads' HO_421003.out).2.2 0 p423 q423
         obtain rfl : ad421 = ad423 := (by injection e423)
         obtain ⟨ce423, hce423, hMe423, hcc423⟩ := Kd.R_get HO_421003.out z57 0 p423 (by first | exact q423 | exact of_decide_eq_true (by first | (with_reducible assumption) | assumption) | (have e_ := (Kd.R_reads' HO_421003.out).1; omega))
         obtain ⟨ve423_3, rfl, ge423_3⟩ := k57_openM hMe423
         have hv423_3 := hcc423 3 _ rfl
         rw [add_field _ _ 3 (by omega)] at hv423_3
         replace hv423_3 := Option.some.inj (hv423_3.symm.trans hx423_3)
         rw [hv423_3] at ge423_3
         have HL423_3 := Aside0.mk (show Kd.R k57 57 _ _ _ _ ((rd_T57 t416 0).f3) from ge423_3)
         clear hv423_3 ge423_3
         clear hcc423 hce423
         have qi423 : (0 < t416.length) = True := eq_true (by omega)
         (try rw [show ((0 : Int)).toNat = 0 from rfl] at hx423_0)
         (try rw [show 0 * 4 = 0 from rfl] at hx423_0)
         (try rw [Addr.add_zero'] at hx423_0)
         (try rw [show ((0 : Int)).toNat = 0 from rfl] at hx423_1)
         (try rw [show 0 * 4 = 0 from rfl] at hx423_1)
         (try rw [Addr.add_zero'] at hx423_1)
         (try rw [show ((0 : Int)).toNat = 0 from rfl] at hx423_2)
         (try rw [show 0 * 4 = 0 from rfl] at hx423_2)
         (try rw [Addr.add_zero'] at hx423_2)
         (try rw [show ((0 : Int)).toNat = 0 from rfl] at hx423_3)
         (try rw [show 0 * 4 = 0 from rfl] at hx423_3)
         (try rw [Addr.add_zero'] at hx423_3)
         have HR423_3 := Aside0.mk hi423_3
         have HC423_3 := Aside0.mk hl423_3
         clear hi423_3 hl423_3
         replace p423 := eq_true p423
         replace q423 := eq_true q423
         have ea_ := Option.some.inj (hx421_3.symm.trans hx423_3)
         injection ea_ with ea_ en_ ec_
         subst ea_
         subst ec_
         clear en_
         have hcz28_0 : wc.cell? ⟨gb412, 0, none⟩ = some (.int .i64 0) := (blk_cell BK412.out 0).trans rfl
         have hcz28_1 : wc.cell? ⟨gb412, 1, none⟩ = some (.int .i64 0) := (blk_cell BK412.out 1).trans rfl
         have hcz28_2 : wc.cell? ⟨gb412, 2, none⟩ = some (.int .i64 0) := (blk_cell BK412.out 2).trans rfl
         have hcz28_3 : wc.cell? ⟨gb412, 3, none⟩ = some (.string (⟨#[]⟩ : ByteArray)) := (blk_cell BK412.out 3).trans rfl
         have hcz28_4 : wc.cell? ⟨gb412, 4, none⟩ = some (.slice none 0 0) := (blk_cell BK412.out 4).trans rfl
         have hfz28_0 := blk_frozen BK412.out 0
         have hfz28_1 := blk_frozen BK412.out 1
         have hfz28_2 := blk_frozen BK412.out 2
         have hfz28_3 := blk_frozen BK412.out 3
         have hfz28_4 := blk_frozen BK412.out 4
         go_wp2
         refine bodyPost_ret (results_ct rfl _ _ gb412 86 #[.int .i64 0, .int .i64 0, .int .i64 0, .string (⟨#[]⟩ : ByteArray), .slice none 0 0] (0, 0) _ rfl (rb (blk_put (cs := #[.int .i64 0, .int .i64 0, .int .i64 0, .string (⟨#[]⟩ : ByteArray), .slice none 0 0]) (rb (blk_put (cs := #[.int .i64 0, .int .i64 0, .int .i64 0, .string (⟨#[]⟩ : ByteArray), .slice none 0 0]) (rb (blk_put (cs := #[.int .i64 0, .int .i64 0, .int .i64 0, .string (⟨#[]⟩ : ByteArray), .slice none 0 0]) (rb (blk_put (cs := #[.int .i64 0, .int .i64 0, .int .i64 0, .string (⟨#[]⟩ : ByteArray), .slice none 0 0]) (rb (blk_put (cs := #[.int .i64 0, .int .i64 0, .int .i64 0, .string (⟨#[]⟩ : ByteArray), .slice none 0 0]) (rb BK412.out) 0 _ rfl)) 1 _ rfl)) 2 _ rfl)) 3 _ rfl)) 4 _ rfl)) Try.underlying86 rfl (by kernel_rfl)) rfl ?_
         exact ⟨_, by first | rfl | (simp [errW_none, errW_some] <;> rfl) | (simp [*, errW_none, errW_some] <;> rfl), kn, bb⟩
        ·rw [if_neg c25] at H
         have c25b0 : decide (2147483647 < ((rd_T57 t416 0).f1)) = false := decide_eq_false c25
         clear c25
         by_cases c29 : 1 < (t416.length : Int)
         ·rw [if_pos c29] at H
          have c29b0 : decide (1 < (t416.length : Int)) = true := decide_eq_true c29
          have c29b1 : decide (1 < t416.length) = true := decide_eq_true (by omega)
          clear c29
          simp only [Option.some.injEq, Prod.mk.injEq] at H
          obtain ⟨rfl, rfl, rfl, rfl, rfl, rfl⟩ := H
          have hnb30 := NB420_412.out
          have hnc30 := NB412_420.out
          have hcz31_0 : wc.cell? ⟨gb420, 0, none⟩ = some (.int .i64 t413) := (blk_cell BK420.out 0).trans rfl
          have hcz31_1 : wc.cell? ⟨gb420, 1, none⟩ = some (.int .i64 t414) := (blk_cell BK420.out 1).trans rfl
          have hcz31_2 : wc.cell? ⟨gb420, 2, none⟩ = some (.string t415) := (blk_cell BK420.out 2).trans rfl
          have hcz31_3 : wc.cell? ⟨gb420, 3, none⟩ = some (.slice Ao10 t416.length co10) := (blk_cell BK420.out 3).trans rfl
          have hfz31_0 := blk_frozen BK420.out 0
          have hfz31_1 := blk_frozen BK420.out 1
          have hfz31_2 := blk_frozen BK420.out 2
          have hfz31_3 := blk_frozen BK420.out 3
          have p421 : 0 ≤ (0 : Int) := (by omega)
          have q421 : 0 < (t416.length : Int) := of_decide_eq_true (by first | (with_reducible assumption) | assumption)
          obtain ⟨ad421, A421_3, c421_3, e421, hx421_0, hx421_1, hx421_2, hx421_3, hl421_3, hi421_3⟩ := at_T57 (Kd.R_reads' HO_421003.out).2.2 0 p421 q421
          cases e421
          obtain ⟨ce421, hce421, hMe421, hcc421⟩ := Kd.R_get HO_421003.out z57 0 p421 (by first | exact q421 | exact of_decide_eq_true (by first | (with_reducible assumption) | assumption) | (have e_ := (Kd.R_reads' HO_421003.out).1; omega))
          obtain ⟨ve421_3, rfl, ge421_3⟩ := k57_openM hMe421
          have hv421_3 := hcc421 3 _ rfl
          rw [add_field _ _ 3 (by omega)] at hv421_3
          replace hv421_3 := Option.some.inj (hv421_3.symm.trans hx421_3)
          rw [hv421_3] at ge421_3
          have HL421_3 := Aside0.mk (show Kd.R k57 57 _ _ _ _ ((rd_T57 t416 0).f3) from ge421_3)
          clear hv421_3 ge421_3
          clear hcc421 hce421
          have qi421 : (0 < t416.length) = True := eq_true (by omega)
          (try rw [show ((0 : Int)).toNat = 0 from rfl] at hx421_0)
          (try rw [show 0 * 4 = 0 from rfl] at hx421_0)
          (try rw [Addr.add_zero'] at hx421_0)
          (try rw [show ((0 : Int)).toNat = 0 from rfl] at hx421_1)
          (try rw [show 0 * 4 = 0 from rfl] at hx421_1)
          (try rw [Addr.add_zero'] at hx421_1)
          (try rw [show ((0 : Int)).toNat = 0 from rfl] at hx421_2)
          (try rw [show 0 * 4 = 0 from rfl] at hx421_2)
          (try rw [Addr.add_zero'] at hx421_2)
          (try rw [show ((0 : Int)).toNat = 0 from rfl] at hx421_3)
          (try rw [show 0 * 4 = 0 from rfl] at hx421_3)
          (try rw [Addr.add_zero'] at hx421_3)
          have HR421_3 := Aside0.mk hi421_3
          have HC421_3 := Aside0.mk hl421_3
          clear hi421_3 hl421_3
          replace p421 := eq_true p421
          replace q421 := eq_true q421
          have p422 : 0 ≤ (0 : Int) := (by omega)
          have q422 : 0 < (t416.length : Int) := of_decide_eq_true (by first | (with_reducible assumption) | assumption)
          obtain ⟨ad422, A422_3, c422_3, e422, hx422_0, hx422_1, hx422_2, hx422_3, hl422_3, hi422_3⟩ := at_T57 (Kd.R_reads' HO_421003.out).2.2 0 p422 q422
          obtain rfl : ad421 = ad422 := (by injection e422)
          obtain ⟨ce422, hce422, hMe422, hcc422⟩ := Kd.R_get HO_421003.out z57 0 p422 (by first | exact q422 | exact of_decide_eq_true (by first | (with_reducible assumption) | assumption) | (have e_ := (Kd.R_reads' HO_421003.out).1; omega))
          obtain ⟨ve422_3, rfl, ge422_3⟩ := k57_openM hMe422
          have hv422_3 := hcc422 3 _ rfl
          rw [add_field _ _ 3 (by omega)] at hv422_3
          replace hv422_3 := Option.some.inj (hv422_3.symm.trans hx422_3)
          rw [hv422_3] at ge422_3
          have HL422_3 := Aside0.mk (show Kd.R k57 57 _ _ _ _ ((rd_T57 t416 0).f3) from ge422_3)
          clear hv422_3 ge422_3
          clear hcc422 hce422
          have qi422 : (0 < t416.length) = True := eq_true (by omega)
          (try rw [show ((0 : Int)).toNat = 0 from rfl] at hx422_0)
          (try rw [show 0 * 4 = 0 from rfl] at hx422_0)
          (try rw [Addr.add_zero'] at hx422_0)
          (try rw [show ((0 : Int)).toNat = 0 from rfl] at hx422_1)
          (try rw [show 0 * 4 = 0 from rfl] at hx422_1)
          (try rw [Addr.add_zero'] at hx422_1)
          (try rw [show ((0 : Int)).toNat = 0 from rfl] at hx422_2)
          (try rw [show 0 * 4 = 0 from rfl] at hx422_2)
          (try rw [Addr.add_zero'] at hx422_2)
          (try rw [show ((0 : Int)).toNat = 0 from rfl] at hx422_3)
          (try rw [show 0 * 4 = 0 from rfl] at hx422_3)
          (try rw [Addr.add_zero'] at hx422_3)
          have HR422_3 := Aside0.mk hi422_3
          have HC422_3 := Aside0.mk hl422_3
          clear hi422_3 hl422_3
          replace p422 := eq_true p422
          replace q422 := eq_true q422
          have ea_ := Option.some.inj (hx421_3.symm.trans hx422_3)
          injection ea_ with ea_ en_ ec_
          subst ea_
          subst ec_
          clear en_
          have p423 : 0 ≤ (0 : Int) := (by omega)
          have q423 : 0 < (t416.length : Int) := of_decide_eq_true (by first | (with_reducible assumption) | assumption)
          obtain ⟨ad423, A423_3, c423_3, e423, hx423_0, hx423_1, hx423_2, hx423_3, hl423_3, hi423_3⟩ := at_T57 (Kd.R_reads' HO_421003.out).2.2 0 p423 q423
          obtain rfl : ad421 = ad423 := (by injection e423)
          obtain ⟨ce423, hce423, hMe423, hcc423⟩ := Kd.R_get HO_421003.out z57 0 p423 (by first | exact q423 | exact of_decide_eq_true (by first | (with_reducible assumption) | assumption) | (have e_ := (Kd.R_reads' HO_421003.out).1; omega))
          obtain ⟨ve423_3, rfl, ge423_3⟩ := k57_openM hMe423
          have hv423_3 := hcc423 3 _ rfl
          rw [add_field _ _ 3 (by omega)] at hv423_3
          replace hv423_3 := Option.some.inj (hv423_3.symm.trans hx423_3)
          rw [hv423_3] at ge423_3
          have HL423_3 := Aside0.mk (show Kd.R k57 57 _ _ _ _ ((rd_T57 t416 0).f3) from ge423_3)
          clear hv423_3 ge423_3
          clear hcc423 hce423
          have qi423 : (0 < t416.length) = True := eq_true (by omega)
          (try rw [show ((0 : Int)).toNat = 0 from rfl] at hx423_0)
          (try rw [show 0 * 4 = 0 from rfl] at hx423_0)
          (try rw [Addr.add_zero'] at hx423_0)
          (try rw [show ((0 : Int)).toNat = 0 from rfl] at hx423_1)
          (try rw [show 0 * 4 = 0 from rfl] at hx423_1)
          (try rw [Addr.add_zero'] at hx423_1)
          (try rw [show ((0 : Int)).toNat = 0 from rfl] at hx423_2)
          (try rw [show 0 * 4 = 0 from rfl] at hx423_2)
          (try rw [Addr.add_zero'] at hx423_2)
          (try rw [show ((0 : Int)).toNat = 0 from rfl] at hx423_3)
          (try rw [show 0 * 4 = 0 from rfl] at hx423_3)
          (try rw [Addr.add_zero'] at hx423_3)
          have HR423_3 := Aside0.mk hi423_3
          have HC423_3 := Aside0.mk hl423_3
          clear hi423_3 hl423_3
          replace p423 := eq_true p423
          replace q423 := eq_true q423
          have ea_ := Option.some.inj (hx421_3.symm.trans hx423_3)
          injection ea_ with ea_ en_ ec_
          subst ea_
          subst ec_
          clear en_
          try go_wp2
          have n0_ := Aside0.mk (Kd.R_drew HO_421003.out)
          have n1_ := Aside0.mk (Kd.R_drew HL421_3.out)
          have n2_ := Aside0.mk (Kd.R_drew HL422_3.out)
          have n3_ := Aside0.mk (Kd.R_drew HL423_3.out)
          have n4_ := Aside0.mk (blk_drew BK412.out)
          have n5_ := Aside0.mk (blk_drew BK420.out)
          have n6_ := Aside0.mk (Kd.C_drew HR421_3.out)
          have n7_ := Aside0.mk (Kd.C_drew HR422_3.out)
          have n8_ := Aside0.mk (Kd.C_drew HR423_3.out)
          have n9_ := Aside0.mk (below_drew1 HB.out)
          clear HO_421003
          clear HL421_3
          clear HL422_3
          clear HL423_3
          clear BK412
          clear BK420
          clear HR421_3
          clear HR422_3
          clear HR423_3
          clear HB
          have HO_421003 := n0_
          have HL421_3 := n1_
          have HL422_3 := n2_
          have HL423_3 := n3_
          have BK412 := n4_
          have BK420 := n5_
          have HR421_3 := n6_
          have HR422_3 := n7_
          have HR423_3 := n8_
          have HB := n9_
          clear n0_ n1_ n2_ n3_ n4_ n5_ n6_ n7_ n8_ n9_
          have p424 : 0 ≤ (0 : Int) := (by omega)
          have q424 : 0 < (t416.length : Int) := of_decide_eq_true (by first | (with_reducible assumption) | assumption)
          obtain ⟨ad424, A424_3, c424_3, e424, hx424_0, hx424_1, hx424_2, hx424_3, hl424_3, hi424_3⟩ := at_T57 (Kd.R_reads' HO_421003.out).2.2 0 p424 q424
          obtain rfl : ad421 = ad424 := (by injection e424)
          obtain ⟨ce424, hce424, hMe424, hcc424⟩ := Kd.R_get HO_421003.out z57 0 p424 (by first | exact q424 | exact of_decide_eq_true (by first | (with_reducible assumption) | assumption) | (have e_ := (Kd.R_reads' HO_421003.out).1; omega))
          obtain ⟨ve424_3, rfl, ge424_3⟩ := k57_openM hMe424
          have hv424_3 := hcc424 3 _ rfl
          rw [add_field _ _ 3 (by omega)] at hv424_3
          replace hv424_3 := Option.some.inj (hv424_3.symm.trans hx424_3)
          rw [hv424_3] at ge424_3
          have HL424_3 := Aside0.mk (show Kd.R k57 57 _ _ _ _ ((rd_T57 t416 0).f3) from ge424_3)
          clear hv424_3 ge424_3
          clear hcc424 hce424
          have qi424 : (0 < t416.length) = True := eq_true (by omega)
          (try rw [show ((0 : Int)).toNat = 0 from rfl] at hx424_0)
          (try rw [show 0 * 4 = 0 from rfl] at hx424_0)
          (try rw [Addr.add_zero'] at hx424_0)
          (try rw [show ((0 : Int)).toNat = 0 from rfl] at hx424_1)
          (try rw [show 0 * 4 = 0 from rfl] at hx424_1)
          (try rw [Addr.add_zero'] at hx424_1)
          (try rw [show ((0 : Int)).toNat = 0 from rfl] at hx424_2)
          (try rw [show 0 * 4 = 0 from rfl] at hx424_2)
          (try rw [Addr.add_zero'] at hx424_2)
          (try rw [show ((0 : Int)).toNat = 0 from rfl] at hx424_3)
          (try rw [show 0 * 4 = 0 from rfl] at hx424_3)
          (try rw [Addr.add_zero'] at hx424_3)
          have HR424_3 := Aside0.mk hi424_3
          have HC424_3 := Aside0.mk hl424_3
          clear hi424_3 hl424_3
          replace p424 := eq_true p424
          replace q424 := eq_true q424
          have p425 : 0 ≤ (1 : Int) := (by omega)
          have q425 : 1 < (t416.length : Int) := of_decide_eq_true (by first | (with_reducible assumption) | assumption)
          obtain ⟨ad425, A425_3, c425_3, e425, hx425_0, hx425_1, hx425_2, hx425_3, hl425_3, hi425_3⟩ := at_T57 (Kd.R_reads' HO_421003.out).2.2 1 p425 q425
          obtain rfl : ad421 = ad425 := (by injection e425)
          obtain ⟨ce425, hce425, hMe425, hcc425⟩ := Kd.R_get HO_421003.out z57 1 p425 (by first | exact q425 | exact of_decide_eq_true (by first | (with_reducible assumption) | assumption) | (have e_ := (Kd.R_reads' HO_421003.out).1; omega))
          obtain ⟨ve425_3, rfl, ge425_3⟩ := k57_openM hMe425
          have hv425_3 := hcc425 3 _ rfl
          rw [add_field _ _ 3 (by omega)] at hv425_3
          replace hv425_3 := Option.some.inj (hv425_3.symm.trans hx425_3)
          rw [hv425_3] at ge425_3
          have HL425_3 := Aside0.mk (show Kd.R k57 57 _ _ _ _ ((rd_T57 t416 1).f3) from ge425_3)
          clear hv425_3 ge425_3
          clear hcc425 hce425
          (try simp only [show (1 : Int).toNat = 1 from rfl, Nat.reduceMul, Nat.reduceEqDiff, Go.Addr.add, ↓reduceIte] at hx425_0 hx425_1 hx425_2 hx425_3)
          have qi425 : (1 < t416.length) = True := eq_true (by omega)
          (try rw [show ((1 : Int)).toNat = 1 from rfl] at hx425_0)
          (try rw [show 1 * 4 = 4 from rfl] at hx425_0)
          (try rw [show ((1 : Int)).toNat = 1 from rfl] at hx425_1)
          (try rw [show 1 * 4 = 4 from rfl] at hx425_1)
          (try rw [show ((1 : Int)).toNat = 1 from rfl] at hx425_2)
          (try rw [show 1 * 4 = 4 from rfl] at hx425_2)
          (try rw [show ((1 : Int)).toNat = 1 from rfl] at hx425_3)
          (try rw [show 1 * 4 = 4 from rfl] at hx425_3)
          have HR425_3 := Aside0.mk hi425_3
          have HC425_3 := Aside0.mk hl425_3
          clear hi425_3 hl425_3
          replace p425 := eq_true p425
          replace q425 := eq_true q425
          refine start_ (n := 12) (S := fun w' => w'.cell? ⟨gb420, 0, none⟩ = some (.int .i64 t413) ∧ w'.cell? ⟨gb420, 1, none⟩ = some (.int .i64 t414) ∧ w'.cell? ⟨gb420, 2, none⟩ = some (.string t415) ∧ w'.cell? ⟨gb420, 3, none⟩ = some (.slice (some ad421) t416.length co10) ∧ w'.cell? ad421 = some (.int .i64 ((rd_T57 t416 0).f0)) ∧ w'.cell? ⟨ad421.block, ad421.off + 1, none⟩ = some (.int .i64 ((rd_T57 t416 0).f1)) ∧ w'.cell? ⟨ad421.block, ad421.off + 2, none⟩ = some (.string ((rd_T57 t416 0).f2)) ∧ w'.cell? ⟨ad421.block, ad421.off + 3, none⟩ = some (.slice A424_3 ((rd_T57 t416 0).f3).length c424_3) ∧ w'.cell? ⟨ad421.block, ad421.off + 4, none⟩ = some (.int .i64 ((rd_T57 t416 1).f0)) ∧ w'.cell? ⟨ad421.block, ad421.off + 4 + 1, none⟩ = some (.int .i64 ((rd_T57 t416 1).f1)) ∧ w'.cell? ⟨ad421.block, ad421.off + 4 + 2, none⟩ = some (.string ((rd_T57 t416 1).f2)) ∧ w'.cell? ⟨ad421.block, ad421.off + 4 + 3, none⟩ = some (.slice A425_3 ((rd_T57 t416 1).f3).length c425_3)) (ds := []) #[false, false, false, false, false, false, false, false, false, false, false, false] (by kernel_rfl) rfl rfl ⟨(blk_cell BK420.out 0).trans rfl, (blk_cell BK420.out 1).trans rfl, (blk_cell BK420.out 2).trans rfl, (blk_cell BK420.out 3).trans rfl, hx424_0, hx424_1, hx424_2, hx424_3, hx425_0, hx425_1, hx425_2, hx425_3⟩ (fun hHeld => ?_); refine with_tabW precinctref18_Told.tab8 precinctref18_Told.bits8 (fun HT_ HW_ => ?_)
          generalize wc.drew = w32 at HO_421003 HL421_3 HL422_3 HL423_3 BK412 BK420 HR421_3 HR422_3 HR423_3 HB HL424_3 HL425_3 HR424_3 HR425_3 hx424_0 hx424_1 hx424_2 hx424_3 hx425_0 hx425_1 hx425_2 hx425_3 hHeld ⊢
          refine pure_ (i := 0) (N := some 48) (v := ?_) (a' := ?_) #[true, false, false, false, false, false, false, false, false, false, false, false] rfl rfl (any_of HT_.out (by kernel_rfl)) (fun _ _ _ h => h) (Or.inl ⟨by rfl, ?_⟩) ?_ ?_
          rotate_left
          ·intro w'
           go_simp
           with_reducible rfl
          rotate_left
          ·simp only [Act.put, List.setIfInBounds_toArray, List.set_cons_zero, List.set_cons_succ, i64_w, i32_w]
           rfl
          refine pure_ (i := 5) (N := some 53) (v := ?_) (a' := ?_) #[true, false, false, false, false, true, false, false, false, false, false, false] rfl rfl (any_of HT_.out (by kernel_rfl)) (fun _ _ _ h => h) (Or.inl ⟨by rfl, ?_⟩) ?_ ?_
          rotate_left
          ·intro w'
           go_simp
           with_reducible rfl
          rotate_left
          ·simp only [Act.put, List.setIfInBounds_toArray, List.set_cons_zero, List.set_cons_succ, i64_w, i32_w]
           rfl
          refine take_ (i := 1) (N := some 49) (v := ?_) (a' := ?_) #[true, true, false, false, false, true, false, false, false, false, false, false] rfl rfl (take_ofW HT_.out HW_.out (by kernel_rfl)) (fun _ _ _ h => h) (Or.inl ⟨by rfl, ?_⟩) hHeld ?_ ?_
          rotate_left
          ·rintro w' ⟨s0, s1, s2, s3, s4, s5, s6, s7, s8, s9, s10, s11⟩
           go_simp
           with_reducible rfl
          rotate_left
          ·simp only [Act.put, List.setIfInBounds_toArray, List.set_cons_zero, List.set_cons_succ, i64_w, i32_w]
           rfl
          refine pure_ (i := 2) (N := some 50) (v := ?_) (a' := ?_) #[true, true, true, false, false, true, false, false, false, false, false, false] rfl rfl (any_of HT_.out (by kernel_rfl)) (fun _ _ _ h => h) (Or.inl ⟨by rfl, ?_⟩) ?_ ?_
          rotate_left
          ·intro w'
           go_simp
           with_reducible rfl
          rotate_left
          ·simp only [Act.put, List.setIfInBounds_toArray, List.set_cons_zero, List.set_cons_succ, i64_w, i32_w]
           rfl
          refine pure_ (i := 3) (N := some 51) (v := ?_) (a' := ?_) #[true, true, true, true, false, true, false, false, false, false, false, false] rfl rfl (any_of HT_.out (by kernel_rfl)) (fun _ _ _ h => h) (Or.inl ⟨by rfl, ?_⟩) ?_ ?_
          rotate_left
          ·intro w'
           go_simp
           with_reducible rfl
          rotate_left
          ·simp only [Act.put, List.setIfInBounds_toArray, List.set_cons_zero, List.set_cons_succ, i64_w, i32_w]
           rfl
          refine take_ (i := 4) (N := some 52) (v := ?_) (a' := ?_) #[true, true, true, true, true, true, false, false, false, false, false, false] rfl rfl (take_ofW HT_.out HW_.out (by kernel_rfl)) (fun _ _ _ h => h) (Or.inl ⟨by rfl, ?_⟩) hHeld ?_ ?_
          rotate_left
          ·rintro w' ⟨s0, s1, s2, s3, s4, s5, s6, s7, s8, s9, s10, s11⟩
           go_simp
           with_reducible rfl
          rotate_left
          ·simp only [Act.put, List.setIfInBounds_toArray, List.set_cons_zero, List.set_cons_succ, i64_w, i32_w]
           rfl
          refine take_ (i := 6) (N := some 54) (v := ?_) (a' := ?_) #[true, true, true, true, true, true, true, false, false, false, false, false] rfl rfl (take_ofW HT_.out HW_.out (by kernel_rfl)) (fun _ _ _ h => h) (Or.inl ⟨by rfl, ?_⟩) hHeld ?_ ?_
          rotate_left
          ·rintro w' ⟨s0, s1, s2, s3, s4, s5, s6, s7, s8, s9, s10, s11⟩
           go_simp
           with_reducible rfl
          rotate_left
          ·simp only [Act.put, List.setIfInBounds_toArray, List.set_cons_zero, List.set_cons_succ, i64_w, i32_w]
           rfl
          refine pure_ (i := 7) (N := some 55) (v := ?_) (a' := ?_) #[true, true, true, true, true, true, true, true, false, false, false, false] rfl rfl (any_of HT_.out (by kernel_rfl)) (fun _ _ _ h => h) (Or.inl ⟨by rfl, ?_⟩) ?_ ?_
          rotate_left
          ·intro w'
           go_simp
           with_reducible rfl
          rotate_left
          ·simp only [Act.put, List.setIfInBounds_toArray, List.set_cons_zero, List.set_cons_succ, i64_w, i32_w]
           rfl
          refine take_ (i := 8) (N := some 56) (v := ?_) (a' := ?_) #[true, true, true, true, true, true, true, true, true, false, false, false] rfl rfl (take_ofW HT_.out HW_.out (by kernel_rfl)) (fun _ _ _ h => h) (Or.inl ⟨by rfl, ?_⟩) hHeld ?_ ?_
          rotate_left
          ·rintro w' ⟨s0, s1, s2, s3, s4, s5, s6, s7, s8, s9, s10, s11⟩
           go_simp
           with_reducible rfl
          rotate_left
          ·simp only [Act.put, List.setIfInBounds_toArray, List.set_cons_zero, List.set_cons_succ, i64_w, i32_w]
           rfl
          refine pure_ (i := 9) (N := some 57) (v := ?_) (a' := ?_) #[true, true, true, true, true, true, true, true, true, true, false, false] rfl rfl (any_of HT_.out (by kernel_rfl)) (fun _ _ _ h => h) (Or.inl ⟨by rfl, ?_⟩) ?_ ?_
          rotate_left
          ·intro w'
           go_simp
           with_reducible rfl
          rotate_left
          ·simp only [Act.put, List.setIfInBounds_toArray, List.set_cons_zero, List.set_cons_succ, i64_w, i32_w]
           rfl
          refine one_ (i := 10) (N := none) #[true, true, true, true, true, true, true, true, true, true, true, false] rfl rfl (one_of HT_.out (by kernel_rfl)) (by decide) (fun K hK => ?_)
          have hs33 : w32.cell? ⟨gb412, 0, none⟩ = some (.int .i64 0) := (blk_cell BK412.out 0).trans rfl
          have hfs33 := blk_frozen BK412.out 0
          have hns33_1 := NB420_412.out
          have hms33_1 := NB412_420.out
          have hs34 : w32.cell? ⟨gb412, 1, none⟩ = some (.int .i64 0) := (blk_cell BK412.out 1).trans rfl
          have hfs34 := blk_frozen BK412.out 1
          have hns34_1 := NB420_412.out
          have hms34_1 := NB412_420.out
          have hs35 : w32.cell? ⟨gb412, 2, none⟩ = some (.int .i64 0) := (blk_cell BK412.out 2).trans rfl
          have hfs35 := blk_frozen BK412.out 2
          have hns35_1 := NB420_412.out
          have hms35_1 := NB412_420.out
          have hs36 : w32.cell? ⟨gb412, 3, none⟩ = some (.string (⟨#[]⟩ : ByteArray)) := (blk_cell BK412.out 3).trans rfl
          have hfs36 := blk_frozen BK412.out 3
          have hns36_1 := NB420_412.out
          have hms36_1 := NB412_420.out
          have hs37 : w32.cell? ⟨gb412, 4, none⟩ = some (.slice none 0 0) := (blk_cell BK412.out 4).trans rfl
          have hfs37 := blk_frozen BK412.out 4
          have hns37_1 := NB420_412.out
          have hms37_1 := NB412_420.out
          refine skip_ (w1 := ?_) (by rfl) rfl ?_ ?_
          rotate_left
          ·go_simp
           rfl
          have nx_0 := Kd.own_blk (Kd.R_ne HO_421003.out BK412.out (by decide))
          refine hK.out _ _ ⟨((cell_far (p := ⟨gb412, _, none⟩) NB420_412.out _).trans (((cell_far (p := ⟨gb412, _, none⟩) NB420_412.out _).trans (((cell_far (p := ⟨gb412, _, none⟩) NB420_412.out _).trans (((cell_far (p := ⟨gb412, _, none⟩) NB420_412.out _).trans (((cell_far (p := ⟨gb412, _, none⟩) NB420_412.out _).trans (hHeld.1)))))))))), ((cell_far (p := ⟨gb412, _, none⟩) NB420_412.out _).trans (((cell_far (p := ⟨gb412, _, none⟩) NB420_412.out _).trans (((cell_far (p := ⟨gb412, _, none⟩) NB420_412.out _).trans (((cell_far (p := ⟨gb412, _, none⟩) NB420_412.out _).trans (((cell_far (p := ⟨gb412, _, none⟩) NB420_412.out _).trans (hHeld.2.1)))))))))), ((cell_far (p := ⟨gb412, _, none⟩) NB420_412.out _).trans (((cell_far (p := ⟨gb412, _, none⟩) NB420_412.out _).trans (((cell_far (p := ⟨gb412, _, none⟩) NB420_412.out _).trans (((cell_far (p := ⟨gb412, _, none⟩) NB420_412.out _).trans (((cell_far (p := ⟨gb412, _, none⟩) NB420_412.out _).trans (hHeld.2.2.1)))))))))), ((cell_far (p := ⟨gb412, _, none⟩) NB420_412.out _).trans (((cell_far (p := ⟨gb412, _, none⟩) NB420_412.out _).trans (((cell_far (p := ⟨gb412, _, none⟩) NB420_412.out _).trans (((cell_far (p := ⟨gb412, _, none⟩) NB420_412.out _).trans (((cell_far (p := ⟨gb412, _, none⟩) NB420_412.out _).trans (hHeld.2.2.2.1)))))))))), ((cell_far (p := ⟨gb412, _, none⟩) (by exact nx_0) _).trans (((cell_far (p := ⟨gb412, _, none⟩) (by exact nx_0) _).trans (((cell_far (p := ⟨gb412, _, none⟩) (by exact nx_0) _).trans (((cell_far (p := ⟨gb412, _, none⟩) (by exact nx_0) _).trans (((cell_far (p := ⟨gb412, _, none⟩) (by exact nx_0) _).trans (hHeld.2.2.2.2.1)))))))))), ((cell_far (p := ⟨gb412, _, none⟩) (by exact nx_0) _).trans (((cell_far (p := ⟨gb412, _, none⟩) (by exact nx_0) _).trans (((cell_far (p := ⟨gb412, _, none⟩) (by exact nx_0) _).trans (((cell_far (p := ⟨gb412, _, none⟩) (by exact nx_0) _).trans (((cell_far (p := ⟨gb412, _, none⟩) (by exact nx_0) _).trans (hHeld.2.2.2.2.2.1)))))))))), ((cell_far (p := ⟨gb412, _, none⟩) (by exact nx_0) _).trans (((cell_far (p := ⟨gb412, _, none⟩) (by exact nx_0) _).trans (((cell_far (p := ⟨gb412, _, none⟩) (by exact nx_0) _).trans (((cell_far (p := ⟨gb412, _, none⟩) (by exact nx_0) _).trans (((cell_far (p := ⟨gb412, _, none⟩) (by exact nx_0) _).trans (hHeld.2.2.2.2.2.2.1)))))))))), ((cell_far (p := ⟨gb412, _, none⟩) (by exact nx_0) _).trans (((cell_far (p := ⟨gb412, _, none⟩) (by exact nx_0) _).trans (((cell_far (p := ⟨gb412, _, none⟩) (by exact nx_0) _).trans (((cell_far (p := ⟨gb412, _, none⟩) (by exact nx_0) _).trans (((cell_far (p := ⟨gb412, _, none⟩) (by exact nx_0) _).trans (hHeld.2.2.2.2.2.2.2.1)))))))))), ((cell_far (p := ⟨gb412, _, none⟩) (by exact nx_0) _).trans (((cell_far (p := ⟨gb412, _, none⟩) (by exact nx_0) _).trans (((cell_far (p := ⟨gb412, _, none⟩) (by exact nx_0) _).trans (((cell_far (p := ⟨gb412, _, none⟩) (by exact nx_0) _).trans (((cell_far (p := ⟨gb412, _, none⟩) (by exact nx_0) _).trans (hHeld.2.2.2.2.2.2.2.2.1)))))))))), ((cell_far (p := ⟨gb412, _, none⟩) (by exact nx_0) _).trans (((cell_far (p := ⟨gb412, _, none⟩) (by exact nx_0) _).trans (((cell_far (p := ⟨gb412, _, none⟩) (by exact nx_0) _).trans (((cell_far (p := ⟨gb412, _, none⟩) (by exact nx_0) _).trans (((cell_far (p := ⟨gb412, _, none⟩) (by exact nx_0) _).trans (hHeld.2.2.2.2.2.2.2.2.2.1)))))))))), ((cell_far (p := ⟨gb412, _, none⟩) (by exact nx_0) _).trans (((cell_far (p := ⟨gb412, _, none⟩) (by exact nx_0) _).trans (((cell_far (p := ⟨gb412, _, none⟩) (by exact nx_0) _).trans (((cell_far (p := ⟨gb412, _, none⟩) (by exact nx_0) _).trans (((cell_far (p := ⟨gb412, _, none⟩) (by exact nx_0) _).trans (hHeld.2.2.2.2.2.2.2.2.2.2.1)))))))))), ((cell_far (p := ⟨gb412, _, none⟩) (by exact nx_0) _).trans (((cell_far (p := ⟨gb412, _, none⟩) (by exact nx_0) _).trans (((cell_far (p := ⟨gb412, _, none⟩) (by exact nx_0) _).trans (((cell_far (p := ⟨gb412, _, none⟩) (by exact nx_0) _).trans (((cell_far (p := ⟨gb412, _, none⟩) (by exact nx_0) _).trans (hHeld.2.2.2.2.2.2.2.2.2.2.2))))))))))⟩ (fun hHeld => ?_)
          clear hK K
          refine pure_ (i := 11) (N := some 3) (v := ?_) (a' := ?_) #[true, true, true, true, true, true, true, true, true, true, true, true] rfl rfl (any_of HT_.out (by kernel_rfl)) (fun _ _ _ h => h) (Or.inl ⟨by rfl, ?_⟩) ?_ ?_
          rotate_left
          ·intro w'
           go_simp
           with_reducible rfl
          rotate_left
          ·simp only [Act.put, List.setIfInBounds_toArray, List.set_cons_zero, List.set_cons_succ, i64_w, i32_w]
           rfl
          refine done_ (done_of HT_.out (by kernel_rfl)) ?_
          try go_wp2
          refine bodyPost_ret (results_ct rfl _ _ gb412 86 #[.int .i64 ((rd_T57 t416 0).f1), .int .i64 ((rd_T57 t416 1).f0), .int .i64 ((rd_T57 t416 1).f1), .string ((rd_T57 t416 1).f2), .slice A425_3 ((rd_T57 t416 1).f3).length c425_3] (0, 0) _ rfl (rb (blk_put (cs := #[.int .i64 ((rd_T57 t416 0).f1), .int .i64 ((rd_T57 t416 1).f0), .int .i64 ((rd_T57 t416 1).f1), .string ((rd_T57 t416 1).f2), .slice none 0 0]) (rb (blk_put (cs := #[.int .i64 ((rd_T57 t416 0).f1), .int .i64 ((rd_T57 t416 1).f0), .int .i64 ((rd_T57 t416 1).f1), .string (⟨#[]⟩ : ByteArray), .slice none 0 0]) (rb (blk_put (cs := #[.int .i64 ((rd_T57 t416 0).f1), .int .i64 ((rd_T57 t416 1).f0), .int .i64 0, .string (⟨#[]⟩ : ByteArray), .slice none 0 0]) (rb (blk_put (cs := #[.int .i64 ((rd_T57 t416 0).f1), .int .i64 0, .int .i64 0, .string (⟨#[]⟩ : ByteArray), .slice none 0 0]) (rb (blk_put (cs := #[.int .i64 0, .int .i64 0, .int .i64 0, .string (⟨#[]⟩ : ByteArray), .slice none 0 0]) (rb BK412.out) 0 _ rfl)) 1 _ rfl)) 2 _ rfl)) 3 _ rfl)) 4 _ rfl)) Try.underlying86 rfl (by kernel_rfl)) rfl ?_
          exact ⟨_, by first | rfl | (simp [errW_none, errW_some] <;> rfl) | (simp [*, errW_none, errW_some] <;> rfl), kR (Kd.R_mono (Kd.R_far (p := ⟨gb412, 4, none⟩) (Kd.R_far (p := ⟨gb412, 3, none⟩) (Kd.R_far (p := ⟨gb412, 2, none⟩) (Kd.R_far (p := ⟨gb412, 1, none⟩) (Kd.R_far (p := ⟨gb412, 0, none⟩) (Kd.R_types HL425_3.out BK412.out (by decide)) (fun _ hk => hk.2) (.int .i64 ((rd_T57 t416 0).f1))) (fun _ hk => hk.2) (.int .i64 ((rd_T57 t416 1).f0))) (fun _ hk => hk.2) (.int .i64 ((rd_T57 t416 1).f1))) (fun _ hk => hk.2) (.string ((rd_T57 t416 1).f2))) (fun _ hk => hk.2) (.slice A425_3 ((rd_T57 t416 1).f3).length c425_3)) (fun _ hk => trivial)), bb⟩
         ·rw [if_neg c29] at H
          exact absurd H (by simp)
      ·rw [if_neg c20] at H
       have c20b0 : (((rd_T57 t416 0).f0) == 0) = false := beq_eq_false_iff_ne.mpr c20
       have c20b1 : (((rd_T57 t416 0).f0) != 0) = true := bne_iff_ne.mpr c20
       simp only [Option.some.injEq, Prod.mk.injEq] at H
       obtain ⟨rfl, rfl, rfl, rfl, rfl, rfl⟩ := H
       have hnb38 := NB420_412.out
       have hnc38 := NB412_420.out
       have hcz39_0 : wc.cell? ⟨gb420, 0, none⟩ = some (.int .i64 t413) := (blk_cell BK420.out 0).trans rfl
       have hcz39_1 : wc.cell? ⟨gb420, 1, none⟩ = some (.int .i64 t414) := (blk_cell BK420.out 1).trans rfl
       have hcz39_2 : wc.cell? ⟨gb420, 2, none⟩ = some (.string t415) := (blk_cell BK420.out 2).trans rfl
       have hcz39_3 : wc.cell? ⟨gb420, 3, none⟩ = some (.slice Ao10 t416.length co10) := (blk_cell BK420.out 3).trans rfl
       have hfz39_0 := blk_frozen BK420.out 0
       have hfz39_1 := blk_frozen BK420.out 1
       have hfz39_2 := blk_frozen BK420.out 2
       have hfz39_3 := blk_frozen BK420.out 3
       have p421 : 0 ≤ (0 : Int) := (by omega)
       have q421 : 0 < (t416.length : Int) := of_decide_eq_true (by first | (with_reducible assumption) | assumption)
       obtain ⟨ad421, A421_3, c421_3, e421, hx421_0, hx421_1, hx421_2, hx421_3, hl421_3, hi421_3⟩ := at_T57 (Kd.R_reads' HO_421003.out).2.2 0 p421 q421
       cases e421
       obtain ⟨ce421, hce421, hMe421, hcc421⟩ := Kd.R_get HO_421003.out z57 0 p421 (by first | exact q421 | exact of_decide_eq_true (by first | (with_reducible assumption) | assumption) | (have e_ := (Kd.R_reads' HO_421003.out).1; omega))
       obtain ⟨ve421_3, rfl, ge421_3⟩ := k57_openM hMe421
       have hv421_3 := hcc421 3 _ rfl
       rw [add_field _ _ 3 (by omega)] at hv421_3
       replace hv421_3 := Option.some.inj (hv421_3.symm.trans hx421_3)
       rw [hv421_3] at ge421_3
       have HL421_3 := Aside0.mk (show Kd.R k57 57 _ _ _ _ ((rd_T57 t416 0).f3) from ge421_3)
       clear hv421_3 ge421_3
       clear hcc421 hce421
       have qi421 : (0 < t416.length) = True := eq_true (by omega)
       (try rw [show ((0 : Int)).toNat = 0 from rfl] at hx421_0)
       (try rw [show 0 * 4 = 0 from rfl] at hx421_0)
       (try rw [Addr.add_zero'] at hx421_0)
       (try rw [show ((0 : Int)).toNat = 0 from rfl] at hx421_1)
       (try rw [show 0 * 4 = 0 from rfl] at hx421_1)
       (try rw [Addr.add_zero'] at hx421_1)
       (try rw [show ((0 : Int)).toNat = 0 from rfl] at hx421_2)
       (try rw [show 0 * 4 = 0 from rfl] at hx421_2)
       (try rw [Addr.add_zero'] at hx421_2)
       (try rw [show ((0 : Int)).toNat = 0 from rfl] at hx421_3)
       (try rw [show 0 * 4 = 0 from rfl] at hx421_3)
       (try rw [Addr.add_zero'] at hx421_3)
       have HR421_3 := Aside0.mk hi421_3
       have HC421_3 := Aside0.mk hl421_3
       clear hi421_3 hl421_3
       replace p421 := eq_true p421
       replace q421 := eq_true q421
       have hcz40_0 : wc.cell? ⟨gb412, 0, none⟩ = some (.int .i64 0) := (blk_cell BK412.out 0).trans rfl
       have hcz40_1 : wc.cell? ⟨gb412, 1, none⟩ = some (.int .i64 0) := (blk_cell BK412.out 1).trans rfl
       have hcz40_2 : wc.cell? ⟨gb412, 2, none⟩ = some (.int .i64 0) := (blk_cell BK412.out 2).trans rfl
       have hcz40_3 : wc.cell? ⟨gb412, 3, none⟩ = some (.string (⟨#[]⟩ : ByteArray)) := (blk_cell BK412.out 3).trans rfl
       have hcz40_4 : wc.cell? ⟨gb412, 4, none⟩ = some (.slice none 0 0) := (blk_cell BK412.out 4).trans rfl
       have hfz40_0 := blk_frozen BK412.out 0
       have hfz40_1 := blk_frozen BK412.out 1
       have hfz40_2 := blk_frozen BK412.out 2
       have hfz40_3 := blk_frozen BK412.out 3
       have hfz40_4 := blk_frozen BK412.out 4
       go_wp2
       refine bodyPost_ret (results_ct rfl _ _ gb412 86 #[.int .i64 0, .int .i64 0, .int .i64 0, .string (⟨#[]⟩ : ByteArray), .slice none 0 0] (0, 0) _ rfl (rb (blk_put (cs := #[.int .i64 0, .int .i64 0, .int .i64 0, .string (⟨#[]⟩ : ByteArray), .slice none 0 0]) (rb (blk_put (cs := #[.int .i64 0, .int .i64 0, .int .i64 0, .string (⟨#[]⟩ : ByteArray), .slice none 0 0]) (rb (blk_put (cs := #[.int .i64 0, .int .i64 0, .int .i64 0, .string (⟨#[]⟩ : ByteArray), .slice none 0 0]) (rb (blk_put (cs := #[.int .i64 0, .int .i64 0, .int .i64 0, .string (⟨#[]⟩ : ByteArray), .slice none 0 0]) (rb (blk_put (cs := #[.int .i64 0, .int .i64 0, .int .i64 0, .string (⟨#[]⟩ : ByteArray), .slice none 0 0]) (rb BK412.out) 0 _ rfl)) 1 _ rfl)) 2 _ rfl)) 3 _ rfl)) 4 _ rfl)) Try.underlying86 rfl (by kernel_rfl)) rfl ?_
       exact ⟨_, by first | rfl | (simp [errW_none, errW_some] <;> rfl) | (simp [*, errW_none, errW_some] <;> rfl), kn, bb⟩
     ·rw [if_neg c19] at H
      exact absurd H (by simp)
 ·rw [if_neg c3] at H
  have c3b0 : (t419 == 0) = false := beq_eq_false_iff_ne.mpr c3
  have c3b1 : (t419 != 0) = true := bne_iff_ne.mpr c3
  simp only [Option.some.injEq, Prod.mk.injEq] at H
  obtain ⟨rfl, rfl, rfl, rfl, rfl, rfl⟩ := H
  go_enter Try.func37, Try.ntmps37
  go_wp2_with (first | ((with_reducible refine gate_dst (N := 2) rfl ?_); (try (refine gate_guard (by rfl) ?_; dsimp only)); refine box_event ?hg (N := 2) ?hd (cs := #[.int .i64 0, .int .i64 0, .int .i64 0, .string (⟨#[]⟩ : ByteArray), .slice none 0 0]) (t := 86) ?hr ?_; (case hd => rfl); (case hg => rfl); (case hr => first | (go_simp; done) | (go_simp; rfl)); intro gb412 hg w41 hbox hb; have n0_ := Aside0.mk (below_step bb hb); have n1_ := Aside0.mk (hbox); have n2_ := Aside0.mk ((by rw [hg]; exact (below_size bb) : w.heap.size ≤ gb412)); have n3_ := Aside0.mk ((by rw [hg]; exact (below_size bb) : w.heap.size ≤ gb412)); clear HB; have HB := n0_; have BK412 := n1_; have GW412 := n2_; have GE412 := n3_; clear n0_ n1_ n2_ n3_; clear hb hbox hg) | ((with_reducible refine gate_callee (f := 76) rfl ?_); refine goesL_ (some 8) rfl rfl Try.func76 (by kernel_rfl) rfl #[.string a0] rfl ag ?_; (with_reducible refine (precinctref02_Get.calls k a0 t413 t414 t415 t416 t419 _ A2.out).mono ?_); rintro e w42 ⟨v417, rfl, ho0, hb⟩; refine ⟨_, rfl, ?_⟩; have n0_ := Aside0.mk (Kd.R_lower ho0 (below_size bb)); have n1_ := Aside0.mk (blk_below (g := gb412) (o := .cells #[.int .i64 0, .int .i64 0, .int .i64 0, .string (⟨#[]⟩ : ByteArray), .slice none 0 0] 86 (0, 0)) (rb BK412.out) hb); have n2_ := Aside0.mk (below_step bb hb); clear BK412; clear HB; have HO418 := n0_; have BK412 := n1_; have HB := n2_; clear n0_ n1_ n2_; (try clear hb); (try clear hb2); (try clear hk); (try clear hi); (try clear ho0)) | ((with_reducible refine gate_dst (N := 4) rfl ?_); (try (refine gate_guard (by rfl) ?_; dsimp only)); refine box_event ?hg (N := 4) ?hd (cs := #[.int .i64 0, .int .i64 0, .string (⟨#[]⟩ : ByteArray), .slice none 0 0]) (t := 57) ?hr ?_; (case hd => rfl); (case hg => rfl); (case hr => first | (go_simp; done) | (go_simp; rfl)); intro gb420 hg w43 hbox hb; have n0_ := Aside0.mk (Kd.R_below (Kd.R_elderB (kR HO418.out) gb420 (Nat.le_of_eq hg.symm)) hb); have n1_ := Aside0.mk (blk_below (g := gb412) (o := .cells #[.int .i64 0, .int .i64 0, .int .i64 0, .string (⟨#[]⟩ : ByteArray), .slice none 0 0] 86 (0, 0)) (rb BK412.out) hb); have n2_ := Aside0.mk (below_step bb hb); have n3_ := Aside0.mk (hbox); have n4_ := Aside0.mk ((by rw [hg]; exact (below_size bb) : w.heap.size ≤ gb420)); have n5_ := Aside0.mk ((by rw [hg]; exact (below_size bb) : w.heap.size ≤ gb420)); have n6_ := Aside0.mk ((by rw [hg]; exact Nat.ne_of_lt (blk_lt (g := gb412) (o := .cells #[.int .i64 0, .int .i64 0, .int .i64 0, .string (⟨#[]⟩ : ByteArray), .slice none 0 0] 86 (0, 0)) (rb BK412.out)) : gb412 ≠ gb420)); have n7_ := Aside0.mk ((by rw [hg]; exact Nat.ne_of_gt (blk_lt (g := gb412) (o := .cells #[.int .i64 0, .int .i64 0, .int .i64 0, .string (⟨#[]⟩ : ByteArray), .slice none 0 0] 86 (0, 0)) (rb BK412.out)) : gb420 ≠ gb412)); clear HO418; clear BK412; clear HB; have HO418 := n0_; have BK412 := n1_; have HB := n2_; have BK420 := n3_; have GW420 := n4_; have GE420 := n5_; have NB412_420 := n6_; have NB420_412 := n7_; clear n0_ n1_ n2_ n3_ n4_ n5_ n6_ n7_; clear hb hbox hg; have hnb44 := NB420_412.out; have hnc44 := NB412_420.out; have hcz45_0 : w43.cell? ⟨gb420, 0, none⟩ = some (.int .i64 0) := (blk_cell BK420.out 0).trans rfl; have hcz45_1 : w43.cell? ⟨gb420, 1, none⟩ = some (.int .i64 0) := (blk_cell BK420.out 1).trans rfl; have hcz45_2 : w43.cell? ⟨gb420, 2, none⟩ = some (.string (⟨#[]⟩ : ByteArray)) := (blk_cell BK420.out 2).trans rfl; have hcz45_3 : w43.cell? ⟨gb420, 3, none⟩ = some (.slice none 0 0) := (blk_cell BK420.out 3).trans rfl; have hfz45_0 := blk_frozen BK420.out 0; have hfz45_1 := blk_frozen BK420.out 1; have hfz45_2 := blk_frozen BK420.out 2; have hfz45_3 := blk_frozen BK420.out 3; obtain ⟨Ao46, co46, eo46⟩ := Kd.R_slice HO418.out; subst eo46; have hcz47_0 : w43.cell? ⟨gb412, 0, none⟩ = some (.int .i64 0) := (blk_cell BK412.out 0).trans rfl; have hcz47_1 : w43.cell? ⟨gb412, 1, none⟩ = some (.int .i64 0) := (blk_cell BK412.out 1).trans rfl; have hcz47_2 : w43.cell? ⟨gb412, 2, none⟩ = some (.int .i64 0) := (blk_cell BK412.out 2).trans rfl; have hcz47_3 : w43.cell? ⟨gb412, 3, none⟩ = some (.string (⟨#[]⟩ : ByteArray)) := (blk_cell BK412.out 3).trans rfl; have hcz47_4 : w43.cell? ⟨gb412, 4, none⟩ = some (.slice none 0 0) := (blk_cell BK412.out 4).trans rfl; have hfz47_0 := blk_frozen BK412.out 0; have hfz47_1 := blk_frozen BK412.out 1; have hfz47_2 := blk_frozen BK412.out 2; have hfz47_3 := blk_frozen BK412.out 3; have hfz47_4 := blk_frozen BK412.out 4))
  refine bodyPost_ret (results_ct rfl _ _ gb412 86 #[.int .i64 0, .int .i64 0, .int .i64 0, .string (⟨#[]⟩ : ByteArray), .slice none 0 0] (0, 0) _ rfl (rb (blk_put (cs := #[.int .i64 0, .int .i64 0, .int .i64 0, .string (⟨#[]⟩ : ByteArray), .slice none 0 0]) (rb (blk_put (cs := #[.int .i64 0, .int .i64 0, .int .i64 0, .string (⟨#[]⟩ : ByteArray), .slice none 0 0]) (rb (blk_put (cs := #[.int .i64 0, .int .i64 0, .int .i64 0, .string (⟨#[]⟩ : ByteArray), .slice none 0 0]) (rb (blk_put (cs := #[.int .i64 0, .int .i64 0, .int .i64 0, .string (⟨#[]⟩ : ByteArray), .slice none 0 0]) (rb (blk_put (cs := #[.int .i64 0, .int .i64 0, .int .i64 0, .string (⟨#[]⟩ : ByteArray), .slice none 0 0]) (rb (blk_far (rb (blk_far (rb (blk_far (rb (blk_far (rb BK412.out) NB412_420.out _)) NB412_420.out _)) NB412_420.out _)) NB412_420.out _)) 0 _ rfl)) 1 _ rfl)) 2 _ rfl)) 3 _ rfl)) 4 _ rfl)) Try.underlying86 rfl (by kernel_rfl)) rfl ?_
  exact ⟨_, by first | rfl | (simp [errW_none, errW_some] <;> rfl) | (simp [*, errW_none, errW_some] <;> rfl), kn, bb⟩

end Go.Proofs.Ytjicfkmpgogppaa.PO
