-- printed by a program of this session out of the translation; see NOTES.md
import Derived.Test.YtpbnfnaebdmagaaDoorH1
import Derived.Test.YtpbnfnaebdmagaaDoorH10
import Derived.Test.YtpbnfnaebdmagaaDoorH0
namespace Go.Proofs.YtpbnfnaebdmagaaDoor.PT
open Go.RowKit Go.Proofs.YtpbnfnaebdmagaaDoorW.PrintWords Go.Proofs.YtpbnfnaebdmagaaDoorW.PrintLast Go.Proofs.YtpbnfnaebdmagaaDoorW.PrintMore Go.Proofs.YtpbnfnaebdmagaaDoorRb
attribute [local go_sem] max2_int min2_int max_two min_two max_three min_three max_four min_four   -- for this text's walks alone
set_option linter.unusedVariables false
set_option linter.unusedSimpArgs false

/-! ### precinctref09_Parse: function 10 -/
mutual
def precinctref09_Parse.j0 : Nat → ByteArray → Int → Bool → Int → Int → Int → Int → Int → Int → ByteArray → List (S58) → Option (Int × Int × Int × Int × ByteArray × Int)
 | 0, _, _, _, _, _, _, _, _, _, _, _ => none
 | k + 1, x0, x6, x37, x229000, x229001, x229002, x229003, x237000, x237001, x237002, x237003 => if x37 = true then (some (x229000, x229001, x229002, x229003, (⟨#[]⟩ : ByteArray), 4)) else (precinctref09_Parse.l0 k x0 x6 0 x229000 x229001 x229002 x229003 x237000 x237001 x237002 x237003)
def precinctref09_Parse.l0 : Nat → ByteArray → Int → Int → Int → Int → Int → Int → Int → Int → ByteArray → List (S58) → Option (Int × Int × Int × Int × ByteArray × Int)
 | 0, _, _, _, _, _, _, _, _, _, _, _ => none
 | k + 1, x0, x6, x9, x229000, x229001, x229002, x229003, x237000, x237001, x237002, x237003 => if x9 < 4 then (if 0 ≤ x9 then (if x9 < (x237003.length : Int) then (if ((rd_T58 x237003 x9).f0) = 0 then (if x9 < 2 then (if ((rd_T58 x237003 x9).f1) < 0 then (some (x229000, x229001, x229002, x229003, (⟨#[]⟩ : ByteArray), 4)) else (if ((rd_T58 x237003 x9).f1) > 2147483647 then (some (x229000, x229001, x229002, x229003, (⟨#[]⟩ : ByteArray), 4)) else (precinctref09_Parse.l0 k x0 x6 (wrap64 (x9 + 1)) x229000 x229001 x229002 x229003 x237000 x237001 x237002 x237003))) else (precinctref09_Parse.l0 k x0 x6 (wrap64 (x9 + 1)) x229000 x229001 x229002 x229003 x237000 x237001 x237002 x237003)) else (some (x229000, x229001, x229002, x229003, (⟨#[]⟩ : ByteArray), 4))) else (none)) else (none)) else (if 0 < (x237003.length : Int) then (if 1 < (x237003.length : Int) then (if 2 < (x237003.length : Int) then (if 3 < (x237003.length : Int) then (if 0 ≤ x6 then (if x6 ≤ (x0.size : Int) then (some ((rd_T58 x237003 0).f1, (rd_T58 x237003 1).f1, (rd_T58 x237003 2).f1, (rd_T58 x237003 3).f1, x0.extract (x6 : Int).toNat x0.size, 0)) else (none)) else (none)) else (none)) else (none)) else (none)) else (none))
end
def precinctref09_Parse.f (k : Nat) (a0 : ByteArray) : Option (Int × Int × Int × Int × ByteArray × Int) := if (a0.size : Int) < 32 then (some (0, 0, 0, 0, (⟨#[]⟩ : ByteArray), 3)) else (if 0 ≤ (wrap64 ((a0.size : Int) - 32)) then (if (wrap64 ((a0.size : Int) - 32)) ≤ (a0.size : Int) then ((precinctref02_Get.f k (a0.extract 0 ((wrap64 ((a0.size : Int) - 32)) : Int).toNat)).bind fun bt229 => (if bt229.2.2.2.2 = 0 then (if bt229.1 = 2 then (precinctref09_Parse.j0 k a0 (wrap64 ((a0.size : Int) - 32)) ((bt229.2.2.2.1.length : Int) != 4) 0 0 0 0 bt229.1 bt229.2.1 bt229.2.2.1 bt229.2.2.2.1) else (precinctref09_Parse.j0 k a0 (wrap64 ((a0.size : Int) - 32)) true 0 0 0 0 bt229.1 bt229.2.1 bt229.2.2.1 bt229.2.2.2.1)) else (some (0, 0, 0, 0, (⟨#[]⟩ : ByteArray), bt229.2.2.2.2)))) else (none)) else (none))
theorem precinctref09_Parse.mono_l : ∀ k, (∀ y0 y1 y2 y3 y4 y5 y6 y7 y8 y9 y10, LeO (precinctref09_Parse.j0 k y0 y1 y2 y3 y4 y5 y6 y7 y8 y9 y10) (precinctref09_Parse.j0 (k + 1) y0 y1 y2 y3 y4 y5 y6 y7 y8 y9 y10)) ∧ (∀ y0 y1 y2 y3 y4 y5 y6 y7 y8 y9 y10, LeO (precinctref09_Parse.l0 k y0 y1 y2 y3 y4 y5 y6 y7 y8 y9 y10) (precinctref09_Parse.l0 (k + 1) y0 y1 y2 y3 y4 y5 y6 y7 y8 y9 y10))
 | 0 => ⟨fun _ _ _ _ _ _ _ _ _ _ _ r h => by simp [precinctref09_Parse.j0] at h, fun _ _ _ _ _ _ _ _ _ _ _ r h => by simp [precinctref09_Parse.l0] at h⟩
 | k + 1 => by
  obtain ⟨ih0, ih1⟩ := precinctref09_Parse.mono_l k
  refine ⟨?_, ?_⟩
  ·intro y0 y1 y2 y3 y4 y5 y6 y7 y8 y9 y10
   unfold precinctref09_Parse.j0
   repeat' first
   | (with_reducible exact ih0 _ _ _ _ _ _ _ _ _ _ _)
   | (with_reducible exact ih1 _ _ _ _ _ _ _ _ _ _ _)
   | (with_reducible exact precinctref02_Get.mono _ _)
   | (with_reducible exact LeO.refl _)
   | (with_reducible exact LeO.none _)
   | (with_reducible refine LeO.ite ?_ ?_)
   | (with_reducible refine LeO.bind ?_ (fun _ => ?_))
   | exact ih0 _ _ _ _ _ _ _ _ _ _ _
   | exact ih1 _ _ _ _ _ _ _ _ _ _ _
   | exact precinctref02_Get.mono _ _
   | exact LeO.none _
   | refine LeO.ite ?_ ?_
   | refine LeO.bind ?_ (fun _ => ?_)
  ·intro y0 y1 y2 y3 y4 y5 y6 y7 y8 y9 y10
   unfold precinctref09_Parse.l0
   repeat' first
   | (with_reducible exact ih0 _ _ _ _ _ _ _ _ _ _ _)
   | (with_reducible exact ih1 _ _ _ _ _ _ _ _ _ _ _)
   | (with_reducible exact precinctref02_Get.mono _ _)
   | (with_reducible exact LeO.refl _)
   | (with_reducible exact LeO.none _)
   | (with_reducible refine LeO.ite ?_ ?_)
   | (with_reducible refine LeO.bind ?_ (fun _ => ?_))
   | exact ih0 _ _ _ _ _ _ _ _ _ _ _
   | exact ih1 _ _ _ _ _ _ _ _ _ _ _
   | exact precinctref02_Get.mono _ _
   | exact LeO.none _
   | refine LeO.ite ?_ ?_
   | refine LeO.bind ?_ (fun _ => ?_)
theorem precinctref09_Parse.mono : ∀ a0 k, LeO (precinctref09_Parse.f k a0) (precinctref09_Parse.f (k + 1) a0) := by
 intro a0 k
 obtain ⟨ih0, ih1⟩ := precinctref09_Parse.mono_l k
 unfold precinctref09_Parse.f
 repeat' first
   | (with_reducible exact ih0 _ _ _ _ _ _ _ _ _ _ _)
   | (with_reducible exact ih1 _ _ _ _ _ _ _ _ _ _ _)
   | (with_reducible exact precinctref02_Get.mono _ _)
   | (with_reducible exact LeO.refl _)
   | (with_reducible exact LeO.none _)
   | (with_reducible refine LeO.ite ?_ ?_)
   | (with_reducible refine LeO.bind ?_ (fun _ => ?_))
   | exact ih0 _ _ _ _ _ _ _ _ _ _ _
   | exact ih1 _ _ _ _ _ _ _ _ _ _ _
   | exact precinctref02_Get.mono _ _
   | exact LeO.none _
   | refine LeO.ite ?_ ?_
   | refine LeO.bind ?_ (fun _ => ?_)
def precinctref09_Parse.T17 : Bool × List (List Nat × List Nat) := (true, [([], []), ([0], [0]), ([1], [1]), ([2], [2]), ([3], [3]), ([], []), ([5], [5]), ([6], [6]), ([7], [7]), ([8], [8]), ([], []), ([10], [10]), ([11], [11]), ([12], [12]), ([13], [13]), ([], []), ([15], [15]), ([16], [16]), ([17], [17]), ([18], [18]), ([4, 9, 14, 19], [4, 9, 14, 19]), ([], []), ([], []), ([21, 22], [21, 22]), ([20, 0, 1, 2, 3, 4, 5, 6, 7, 8, 9, 10, 11, 12, 13, 14, 15, 16, 17, 18, 19, 20], [20]), ([23, 24, 0, 1, 2, 3, 4, 5, 6, 7, 8, 9, 10, 11, 12, 13, 14, 15, 16, 17, 18, 19, 20, 21, 22, 23, 24], [23]), ([25, 0, 1, 2, 3, 4, 5, 6, 7, 8, 9, 10, 11, 12, 13, 14, 15, 16, 17, 18, 19, 20, 21, 22, 23, 24, 25], [])])
def precinctref09_Parse.B17 : List Nat := [0, 1, 3, 7, 15, 0, 32, 96, 224, 480, 0, 1024, 3072, 7168, 15360, 0, 32768, 98304, 229376, 491520, 1048575, 0, 0, 6291456, 2097151, 33554431, 67108863]
theorem precinctref09_Parse.tab17 : rtab .any (opsOf Tryd.f10 17) = precinctref09_Parse.T17 := by kernel_rfl
theorem precinctref09_Parse.bits17 : waitsOk precinctref09_Parse.T17.2 precinctref09_Parse.B17 = true := by kernel_rfl
set_option maxHeartbeats 8000000 in
set_option maxRecDepth 100000 in
theorem precinctref09_Parse.calls (k : Nat) (a0 : ByteArray) (r1 : Int) (r2 : Int) (r3 : Int) (r4 : Int) (r5 : ByteArray) (r6 : Int) (w : World) (h : precinctref09_Parse.f k a0 = some (r1, r2, r3, r4, r5, r6)) :
  Calls Tryd.prog 10 #[.string a0] w fun e w' => e = .returned (.tuple #[.agg #[.int .i64 r1, .int .i64 r2, .int .i64 r3, .int .i64 r4], .string r5, .int .i64 r6]) ∧ Below w.heap.size w w' := by
 have hu27 := Tryd.underlying27
 have hu58 := Tryd.underlying58
 have HB := Aside0.mk (Below.refl w.heap.size w)
 have H : (if (a0.size : Int) < 32 then (some (0, 0, 0, 0, (⟨#[]⟩ : ByteArray), 3)) else (if 0 ≤ (wrap64 ((a0.size : Int) - 32)) then (if (wrap64 ((a0.size : Int) - 32)) ≤ (a0.size : Int) then ((precinctref02_Get.f k (a0.extract 0 ((wrap64 ((a0.size : Int) - 32)) : Int).toNat)).bind fun bt229 => (if bt229.2.2.2.2 = 0 then (if bt229.1 = 2 then (precinctref09_Parse.j0 k a0 (wrap64 ((a0.size : Int) - 32)) ((bt229.2.2.2.1.length : Int) != 4) 0 0 0 0 bt229.1 bt229.2.1 bt229.2.2.1 bt229.2.2.2.1) else (precinctref09_Parse.j0 k a0 (wrap64 ((a0.size : Int) - 32)) true 0 0 0 0 bt229.1 bt229.2.1 bt229.2.2.1 bt229.2.2.2.1)) else (some (0, 0, 0, 0, (⟨#[]⟩ : ByteArray), bt229.2.2.2.2)))) else (none)) else (none))) = some (r1, r2, r3, r4, r5, r6) := h
 clear h
 by_cases c2 : (a0.size : Int) < 32
 ·rw [if_pos c2] at H
  have c2b0 : decide ((a0.size : Int) < 32) = true := decide_eq_true c2
  have c2b1 : decide (a0.size < 32) = true := decide_eq_true (by omega)
  clear c2
  simp only [Option.some.injEq, Prod.mk.injEq] at H
  obtain ⟨rfl, rfl, rfl, rfl, rfl, rfl⟩ := H
  go_enter Tryd.func10, Tryd.ntmps10
  go_wp2_with (first | ((with_reducible refine gate_dst (N := 2) rfl ?_); (try (refine gate_guard (by rfl) ?_; dsimp only)); refine box_event ?hg (N := 2) ?hd (cs := #[.int .i64 0, .int .i64 0, .int .i64 0, .int .i64 0]) (t := 27) ?hr ?_; (case hd => rfl); (case hg => rfl); (case hr => first | (go_simp; done) | (go_simp; rfl)); intro gb227 hg w3 hbox hb; have n0_ := Aside0.mk (below_step bb hb); have n1_ := Aside0.mk (hbox); have n2_ := Aside0.mk ((by rw [hg]; exact (below_size bb) : w.heap.size ≤ gb227)); have n3_ := Aside0.mk ((by rw [hg]; exact (below_size bb) : w.heap.size ≤ gb227)); clear HB; have HB := n0_; have BK227 := n1_; have GW227 := n2_; have GE227 := n3_; clear n0_ n1_ n2_ n3_; clear hb hbox hg) | ((with_reducible refine gate_dst (N := 5) rfl ?_); (try (refine gate_guard (by rfl) ?_; dsimp only)); refine box_event ?hg (N := 5) ?hd (cs := #[.int .i64 0, .int .i64 0, .int .i64 0, .int .i64 0]) (t := 27) ?hr ?_; (case hd => rfl); (case hg => rfl); (case hr => first | (go_simp; done) | (go_simp; rfl)); intro gb228 hg w4 hbox hb; have n0_ := Aside0.mk (blk_below (rb BK227.out) hb); have n1_ := Aside0.mk (below_step bb hb); have n2_ := Aside0.mk (hbox); have n3_ := Aside0.mk ((by rw [hg]; exact (below_size bb) : w.heap.size ≤ gb228)); have n4_ := Aside0.mk ((by rw [hg]; exact (below_size bb) : w.heap.size ≤ gb228)); have n5_ := Aside0.mk ((by rw [hg]; exact Nat.ne_of_lt (blk_lt (rb BK227.out)) : gb227 ≠ gb228)); have n6_ := Aside0.mk ((by rw [hg]; exact Nat.ne_of_gt (blk_lt (rb BK227.out)) : gb228 ≠ gb227)); clear BK227; clear HB; have BK227 := n0_; have HB := n1_; have BK228 := n2_; have GW228 := n3_; have GE228 := n4_; have NB227_228 := n5_; have NB228_227 := n6_; clear n0_ n1_ n2_ n3_ n4_ n5_ n6_; clear hb hbox hg; have hnb5 := NB228_227.out; have hnc5 := NB227_228.out; have hcz6_0 : w4.cell? ⟨gb228, 0, none⟩ = some (.int .i64 0) := (blk_cell BK228.out 0).trans rfl; have hcz6_1 : w4.cell? ⟨gb228, 1, none⟩ = some (.int .i64 0) := (blk_cell BK228.out 1).trans rfl; have hcz6_2 : w4.cell? ⟨gb228, 2, none⟩ = some (.int .i64 0) := (blk_cell BK228.out 2).trans rfl; have hcz6_3 : w4.cell? ⟨gb228, 3, none⟩ = some (.int .i64 0) := (blk_cell BK228.out 3).trans rfl; have hfz6_0 := blk_frozen BK228.out 0; have hfz6_1 := blk_frozen BK228.out 1; have hfz6_2 := blk_frozen BK228.out 2; have hfz6_3 := blk_frozen BK228.out 3; have hcz7_0 : w4.cell? ⟨gb227, 0, none⟩ = some (.int .i64 0) := (blk_cell BK227.out 0).trans rfl; have hcz7_1 : w4.cell? ⟨gb227, 1, none⟩ = some (.int .i64 0) := (blk_cell BK227.out 1).trans rfl; have hcz7_2 : w4.cell? ⟨gb227, 2, none⟩ = some (.int .i64 0) := (blk_cell BK227.out 2).trans rfl; have hcz7_3 : w4.cell? ⟨gb227, 3, none⟩ = some (.int .i64 0) := (blk_cell BK227.out 3).trans rfl; have hfz7_0 := blk_frozen BK227.out 0; have hfz7_1 := blk_frozen BK227.out 1; have hfz7_2 := blk_frozen BK227.out 2; have hfz7_3 := blk_frozen BK227.out 3))
  refine bodyPost_ret (results_ctt rfl _ _ gb227 27 #[.int .i64 0, .int .i64 0, .int .i64 0, .int .i64 0] (0, 0) _ rfl (rb (blk_put (cs := #[.int .i64 0, .int .i64 0, .int .i64 0, .int .i64 0]) (rb (blk_put (cs := #[.int .i64 0, .int .i64 0, .int .i64 0, .int .i64 0]) (rb (blk_put (cs := #[.int .i64 0, .int .i64 0, .int .i64 0, .int .i64 0]) (rb (blk_put (cs := #[.int .i64 0, .int .i64 0, .int .i64 0, .int .i64 0]) (rb (blk_far (rb (blk_far (rb (blk_far (rb (blk_far (rb BK227.out) NB227_228.out _)) NB227_228.out _)) NB227_228.out _)) NB227_228.out _)) 0 _ rfl)) 1 _ rfl)) 2 _ rfl)) 3 _ rfl)) Tryd.underlying27 rfl (by kernel_rfl)) rfl ?_
  exact ⟨by first | rfl | (simp [errW_none, errW_some] <;> rfl) | (simp [*, errW_none, errW_some] <;> rfl), bb⟩
 ·rw [if_neg c2] at H
  have c2b0 : decide ((a0.size : Int) < 32) = false := decide_eq_false c2
  have c2b1 : decide (a0.size < 32) = false := decide_eq_false (by omega)
  clear c2
  obtain ⟨ji8, hji8⟩ : ∃ j_ : Int, (wrap64 ((a0.size : Int) - 32)) = j_ := ⟨_, rfl⟩
  replace H : (if 0 ≤ (ji8) then (if (ji8) ≤ (a0.size : Int) then ((precinctref02_Get.f k (a0.extract 0 ((ji8) : Int).toNat)).bind fun bt229 => (if bt229.2.2.2.2 = 0 then (if bt229.1 = 2 then (precinctref09_Parse.j0 k a0 ji8 ((bt229.2.2.2.1.length : Int) != 4) 0 0 0 0 bt229.1 bt229.2.1 bt229.2.2.1 bt229.2.2.2.1) else (precinctref09_Parse.j0 k a0 ji8 true 0 0 0 0 bt229.1 bt229.2.1 bt229.2.2.1 bt229.2.2.2.1)) else (some (0, 0, 0, 0, (⟨#[]⟩ : ByteArray), bt229.2.2.2.2)))) else (none)) else (none)) = some (r1, r2, r3, r4, r5, r6) := by first | (rw [hji8] at H; exact H) | (simp only [hji8] at H ⊢; exact H)
  have hji8w : (IntKind.i64.wrap ((a0.size : Int) - 32)) = ji8 := (i64_w _).trans hji8
  by_cases c9 : 0 ≤ (ji8)
  ·rw [if_pos c9] at H
   have c9b0 := eq_true c9
   have c9b1 : decide (0 ≤ (ji8)) = true := decide_eq_true c9
   clear c9
   by_cases c10 : (ji8) ≤ (a0.size : Int)
   ·rw [if_pos c10] at H
    have c10b0 := eq_true c10
    have c10b1 : decide ((ji8) ≤ (a0.size : Int)) = true := decide_eq_true c10
    clear c10
    replace H := Option.bind_eq_some_iff.mp H
    obtain ⟨⟨t229, t230, t231, t232, t235⟩, A110, H⟩ := H
    replace H : (if t235 = 0 then (if t229 = 2 then (precinctref09_Parse.j0 k a0 ji8 ((t232.length : Int) != 4) 0 0 0 0 t229 t230 t231 t232) else (precinctref09_Parse.j0 k a0 ji8 true 0 0 0 0 t229 t230 t231 t232)) else (some (0, 0, 0, 0, (⟨#[]⟩ : ByteArray), t235))) = some (r1, r2, r3, r4, r5, r6) := H
    have A11 := Aside0.mk A110
    clear A110
    by_cases c12 : t235 = 0
    ·rw [if_pos c12] at H
     have c12b0 : (t235 == 0) = true := beq_iff_eq.mpr c12
     have c12b1 : (t235 != 0) = false := bne_eq_false_iff_eq.mpr c12
     clear c12
     have HC13 := Aside0.mk H
     clear H
     go_enter Tryd.func10, Tryd.ntmps10
     go_upto_region 8 with (first | ((with_reducible refine gate_dst (N := 2) rfl ?_); (try (refine gate_guard (by rfl) ?_; dsimp only)); refine box_event ?hg (N := 2) ?hd (cs := #[.int .i64 0, .int .i64 0, .int .i64 0, .int .i64 0]) (t := 27) ?hr ?_; (case hd => rfl); (case hg => rfl); (case hr => first | (go_simp; done) | (go_simp; rfl)); intro gb227 hg w14 hbox hb; have n0_ := Aside0.mk (below_step bb hb); have n1_ := Aside0.mk (hbox); have n2_ := Aside0.mk ((by rw [hg]; exact (below_size bb) : w.heap.size ≤ gb227)); have n3_ := Aside0.mk ((by rw [hg]; exact (below_size bb) : w.heap.size ≤ gb227)); clear HB; have HB := n0_; have BK227 := n1_; have GW227 := n2_; have GE227 := n3_; clear n0_ n1_ n2_ n3_; clear hb hbox hg) | ((with_reducible refine gate_dst (N := 5) rfl ?_); (try (refine gate_guard (by rfl) ?_; dsimp only)); refine box_event ?hg (N := 5) ?hd (cs := #[.int .i64 0, .int .i64 0, .int .i64 0, .int .i64 0]) (t := 27) ?hr ?_; (case hd => rfl); (case hg => rfl); (case hr => first | (go_simp; done) | (go_simp; rfl)); intro gb228 hg w15 hbox hb; have n0_ := Aside0.mk (blk_below (rb BK227.out) hb); have n1_ := Aside0.mk (below_step bb hb); have n2_ := Aside0.mk (hbox); have n3_ := Aside0.mk ((by rw [hg]; exact (below_size bb) : w.heap.size ≤ gb228)); have n4_ := Aside0.mk ((by rw [hg]; exact (below_size bb) : w.heap.size ≤ gb228)); have n5_ := Aside0.mk ((by rw [hg]; exact Nat.ne_of_lt (blk_lt (rb BK227.out)) : gb227 ≠ gb228)); have n6_ := Aside0.mk ((by rw [hg]; exact Nat.ne_of_gt (blk_lt (rb BK227.out)) : gb228 ≠ gb227)); clear BK227; clear HB; have BK227 := n0_; have HB := n1_; have BK228 := n2_; have GW228 := n3_; have GE228 := n4_; have NB227_228 := n5_; have NB228_227 := n6_; clear n0_ n1_ n2_ n3_ n4_ n5_ n6_; clear hb hbox hg; have hnb16 := NB228_227.out; have hnc16 := NB227_228.out; have hcz17_0 : w15.cell? ⟨gb228, 0, none⟩ = some (.int .i64 0) := (blk_cell BK228.out 0).trans rfl; have hcz17_1 : w15.cell? ⟨gb228, 1, none⟩ = some (.int .i64 0) := (blk_cell BK228.out 1).trans rfl; have hcz17_2 : w15.cell? ⟨gb228, 2, none⟩ = some (.int .i64 0) := (blk_cell BK228.out 2).trans rfl; have hcz17_3 : w15.cell? ⟨gb228, 3, none⟩ = some (.int .i64 0) := (blk_cell BK228.out 3).trans rfl; have hfz17_0 := blk_frozen BK228.out 0; have hfz17_1 := blk_frozen BK228.out 1; have hfz17_2 := blk_frozen BK228.out 2; have hfz17_3 := blk_frozen BK228.out 3) | ((with_reducible refine gate_callee (f := 22) rfl ?_); refine goesL_ (some 22) rfl rfl Tryd.func22 (by kernel_rfl) rfl #[.string (a0.extract 0 ((ji8) : Int).toNat)] rfl (by (try simp only [List.map_toArray, List.map_cons, List.map_nil]); first | done | (simp only [hji8]; rfl) | rfl | (simp only [List.length_drop, List.length_take]; rfl)) ?_; (with_reducible refine (precinctref02_Get.calls k (a0.extract 0 ((ji8) : Int).toNat) t229 t230 t231 t232 t235 _ A11.out).mono ?_); rintro e w18 ⟨v233, rfl, ho0, hb⟩; refine ⟨_, rfl, ?_⟩; have n0_ := Aside0.mk (Kd.R_lower ho0 (below_size bb)); have n1_ := Aside0.mk (blk_below (rb (blk_far (rb (blk_far (rb (blk_far (rb (blk_far (rb BK227.out) NB227_228.out _)) NB227_228.out _)) NB227_228.out _)) NB227_228.out _)) hb); have n2_ := Aside0.mk (blk_below (rb (blk_put (cs := #[.int .i64 0, .int .i64 0, .int .i64 0, .int .i64 0]) (rb (blk_put (cs := #[.int .i64 0, .int .i64 0, .int .i64 0, .int .i64 0]) (rb (blk_put (cs := #[.int .i64 0, .int .i64 0, .int .i64 0, .int .i64 0]) (rb (blk_put (cs := #[.int .i64 0, .int .i64 0, .int .i64 0, .int .i64 0]) (rb BK228.out) 0 _ rfl)) 1 _ rfl)) 2 _ rfl)) 3 _ rfl)) hb); have n3_ := Aside0.mk (below_step bb hb); clear BK227; clear BK228; clear HB; have HO234 := n0_; have BK227 := n1_; have BK228 := n2_; have HB := n3_; clear n0_ n1_ n2_ n3_; (try clear hb); (try clear hb2); (try clear hk); (try clear hi); (try clear ho0)) | ((with_reducible refine gate_dst (N := 7) rfl ?_); (try (refine gate_guard (by rfl) ?_; dsimp only)); refine box_event ?hg (N := 7) ?hd (cs := #[.int .i64 0, .int .i64 0, .string (⟨#[]⟩ : ByteArray), .slice none 0 0]) (t := 58) ?hr ?_; (case hd => rfl); (case hg => rfl); (case hr => first | (go_simp; done) | (go_simp; rfl)); intro gb236 hg w19 hbox hb; have n0_ := Aside0.mk (Kd.R_below (Kd.R_elderB (kR HO234.out) gb236 (Nat.le_of_eq hg.symm)) hb); have n1_ := Aside0.mk (blk_below (rb BK227.out) hb); have n2_ := Aside0.mk (blk_below (rb BK228.out) hb); have n3_ := Aside0.mk (below_step bb hb); have n4_ := Aside0.mk (hbox); have n5_ := Aside0.mk ((by rw [hg]; exact (below_size bb) : w.heap.size ≤ gb236)); have n6_ := Aside0.mk ((by rw [hg]; exact (below_size bb) : w.heap.size ≤ gb236)); have n7_ := Aside0.mk ((by rw [hg]; exact Nat.ne_of_lt (blk_lt (rb BK227.out)) : gb227 ≠ gb236)); have n8_ := Aside0.mk ((by rw [hg]; exact Nat.ne_of_gt (blk_lt (rb BK227.out)) : gb236 ≠ gb227)); have n9_ := Aside0.mk ((by rw [hg]; exact Nat.ne_of_lt (blk_lt (rb BK228.out)) : gb228 ≠ gb236)); have n10_ := Aside0.mk ((by rw [hg]; exact Nat.ne_of_gt (blk_lt (rb BK228.out)) : gb236 ≠ gb228)); clear HO234; clear BK227; clear BK228; clear HB; have HO234 := n0_; have BK227 := n1_; have BK228 := n2_; have HB := n3_; have BK236 := n4_; have GW236 := n5_; have GE236 := n6_; have NB227_236 := n7_; have NB236_227 := n8_; have NB228_236 := n9_; have NB236_228 := n10_; clear n0_ n1_ n2_ n3_ n4_ n5_ n6_ n7_ n8_ n9_ n10_; clear hb hbox hg; have hnb20 := NB236_227.out; have hnc20 := NB227_236.out; have hnb21 := NB236_228.out; have hnc21 := NB228_236.out; have hcz22_0 : w19.cell? ⟨gb236, 0, none⟩ = some (.int .i64 0) := (blk_cell BK236.out 0).trans rfl; have hcz22_1 : w19.cell? ⟨gb236, 1, none⟩ = some (.int .i64 0) := (blk_cell BK236.out 1).trans rfl; have hcz22_2 : w19.cell? ⟨gb236, 2, none⟩ = some (.string (⟨#[]⟩ : ByteArray)) := (blk_cell BK236.out 2).trans rfl; have hcz22_3 : w19.cell? ⟨gb236, 3, none⟩ = some (.slice none 0 0) := (blk_cell BK236.out 3).trans rfl; have hfz22_0 := blk_frozen BK236.out 0; have hfz22_1 := blk_frozen BK236.out 1; have hfz22_2 := blk_frozen BK236.out 2; have hfz22_3 := blk_frozen BK236.out 3; obtain ⟨Ao23, co23, eo23⟩ := Kd.R_slice HO234.out; subst eo23))
     (try simp only [Act.put, List.setIfInBounds_toArray, List.set_cons_zero, List.set_cons_succ])
     go_cut [37] (fun v37 wc => ∃ (kq : Nat) (x37_12 : Bool), v37 = .bool x37_12 ∧ Aside0 (precinctref09_Parse.j0 kq a0 ji8 x37_12 0 0 0 0 t229 t230 t231 t232 = some (r1, r2, r3, r4, r5, r6)) ∧ Aside0 (kq ≤ k) ∧ Aside0 (Kd.R k58 58 wc w.heap.size (fun k_ => k_ ≠ gb236) (.slice Ao23 t232.length co23) t232) ∧ Aside0 (wc.heap[gb227]? = some (.cells #[.int .i64 0, .int .i64 0, .int .i64 0, .int .i64 0] 27 (0, 0))) ∧ Aside0 (wc.heap[gb228]? = some (.cells #[.int .i64 0, .int .i64 0, .int .i64 0, .int .i64 0] 27 (0, 0))) ∧ Aside0 (wc.heap[gb236]? = some (.cells #[.int .i64 t229, .int .i64 t230, .string t231, (.slice Ao23 t232.length co23)] 58 (0, 0))) ∧ Aside0 (Below w.heap.size w wc))
     case first =>
      have H := HC13.out
      clear HC13
      by_cases c24 : t229 = 2
      ·rw [if_pos c24] at H
       have c24b0 : (t229 == 2) = true := beq_iff_eq.mpr c24
       have c24b1 : (t229 != 2) = false := bne_eq_false_iff_eq.mpr c24
       clear c24
       (first | rw [c24b0] | (simp only [i64_w, i32_w]; rw [c24b0]) | skip)
       have H' := Aside0.mk H
       clear H
       have hnb25 := NB236_227.out
       have hnc25 := NB227_236.out
       have hnb26 := NB236_228.out
       have hnc26 := NB228_236.out
       have hcz27_0 : w19.cell? ⟨gb236, 0, none⟩ = some (.int .i64 0) := (blk_cell BK236.out 0).trans rfl
       have hcz27_1 : w19.cell? ⟨gb236, 1, none⟩ = some (.int .i64 0) := (blk_cell BK236.out 1).trans rfl
       have hcz27_2 : w19.cell? ⟨gb236, 2, none⟩ = some (.string (⟨#[]⟩ : ByteArray)) := (blk_cell BK236.out 2).trans rfl
       have hcz27_3 : w19.cell? ⟨gb236, 3, none⟩ = some (.slice none 0 0) := (blk_cell BK236.out 3).trans rfl
       have hfz27_0 := blk_frozen BK236.out 0
       have hfz27_1 := blk_frozen BK236.out 1
       have hfz27_2 := blk_frozen BK236.out 2
       have hfz27_3 := blk_frozen BK236.out 3
       go_wp2
       go_meet
       case rel => exact ⟨_, (((t232.length : Int) != 4)), (by first | rfl | (simp; done) | (simp [*]; done)), H', ⟨by first | omega | exact Nat.le_refl _⟩, ⟨kR (Kd.R_mono (Kd.R_far (p := ⟨gb236, 3, none⟩) (Kd.R_far (p := ⟨gb236, 2, none⟩) (Kd.R_far (p := ⟨gb236, 1, none⟩) (Kd.R_far (p := ⟨gb236, 0, none⟩) (Kd.R_mono HO234.out (fun k_ hk => (⟨hk, hk.2⟩ : _ ∧ k_ ≠ gb236))) (fun _ hk => hk.2) (.int .i64 t229)) (fun _ hk => hk.2) (.int .i64 t230)) (fun _ hk => hk.2) (.string t231)) (fun _ hk => hk.2) (.slice Ao23 t232.length co23)) (fun _ hk => hk.1.2))⟩, ⟨by (with_reducible repeat (first | refine blk_drewN ?_ _ | refine blk_drew ?_ | refine blk_alloc ?_ _)); refine blk_far ?_ NB227_236.out _; (with_reducible repeat (first | refine blk_drewN ?_ _ | refine blk_drew ?_ | refine blk_alloc ?_ _)); refine blk_far ?_ NB227_236.out _; (with_reducible repeat (first | refine blk_drewN ?_ _ | refine blk_drew ?_ | refine blk_alloc ?_ _)); refine blk_far ?_ NB227_236.out _; (with_reducible repeat (first | refine blk_drewN ?_ _ | refine blk_drew ?_ | refine blk_alloc ?_ _)); refine blk_far ?_ NB227_236.out _; (with_reducible repeat (first | refine blk_drewN ?_ _ | refine blk_drew ?_ | refine blk_alloc ?_ _)); exact BK227.out⟩, ⟨by (with_reducible repeat (first | refine blk_drewN ?_ _ | refine blk_drew ?_ | refine blk_alloc ?_ _)); refine blk_far ?_ NB228_236.out _; (with_reducible repeat (first | refine blk_drewN ?_ _ | refine blk_drew ?_ | refine blk_alloc ?_ _)); refine blk_far ?_ NB228_236.out _; (with_reducible repeat (first | refine blk_drewN ?_ _ | refine blk_drew ?_ | refine blk_alloc ?_ _)); refine blk_far ?_ NB228_236.out _; (with_reducible repeat (first | refine blk_drewN ?_ _ | refine blk_drew ?_ | refine blk_alloc ?_ _)); refine blk_far ?_ NB228_236.out _; (with_reducible repeat (first | refine blk_drewN ?_ _ | refine blk_drew ?_ | refine blk_alloc ?_ _)); exact BK228.out⟩, ⟨by (with_reducible repeat (first | refine blk_drewN ?_ _ | refine blk_drew ?_ | refine blk_alloc ?_ _)); refine blk_put (cs := #[.int .i64 t229, .int .i64 t230, .string t231, .slice none 0 0]) ?_ 3 _ rfl; (with_reducible repeat (first | refine blk_drewN ?_ _ | refine blk_drew ?_ | refine blk_alloc ?_ _)); refine blk_put (cs := #[.int .i64 t229, .int .i64 t230, .string (⟨#[]⟩ : ByteArray), .slice none 0 0]) ?_ 2 _ rfl; (with_reducible repeat (first | refine blk_drewN ?_ _ | refine blk_drew ?_ | refine blk_alloc ?_ _)); refine blk_put (cs := #[.int .i64 t229, .int .i64 0, .string (⟨#[]⟩ : ByteArray), .slice none 0 0]) ?_ 1 _ rfl; (with_reducible repeat (first | refine blk_drewN ?_ _ | refine blk_drew ?_ | refine blk_alloc ?_ _)); refine blk_put (cs := #[.int .i64 0, .int .i64 0, .string (⟨#[]⟩ : ByteArray), .slice none 0 0]) ?_ 0 _ rfl; (with_reducible repeat (first | refine blk_drewN ?_ _ | refine blk_drew ?_ | refine blk_alloc ?_ _)); exact BK236.out⟩, ⟨bb⟩⟩
      ·rw [if_neg c24] at H
       have c24b0 : (t229 == 2) = false := beq_eq_false_iff_ne.mpr c24
       have c24b1 : (t229 != 2) = true := bne_iff_ne.mpr c24
       (first | rw [c24b0] | (simp only [i64_w, i32_w]; rw [c24b0]) | skip)
       have H' := Aside0.mk H
       clear H
       have hnb28 := NB236_227.out
       have hnc28 := NB227_236.out
       have hnb29 := NB236_228.out
       have hnc29 := NB228_236.out
       have hcz30_0 : w19.cell? ⟨gb236, 0, none⟩ = some (.int .i64 0) := (blk_cell BK236.out 0).trans rfl
       have hcz30_1 : w19.cell? ⟨gb236, 1, none⟩ = some (.int .i64 0) := (blk_cell BK236.out 1).trans rfl
       have hcz30_2 : w19.cell? ⟨gb236, 2, none⟩ = some (.string (⟨#[]⟩ : ByteArray)) := (blk_cell BK236.out 2).trans rfl
       have hcz30_3 : w19.cell? ⟨gb236, 3, none⟩ = some (.slice none 0 0) := (blk_cell BK236.out 3).trans rfl
       have hfz30_0 := blk_frozen BK236.out 0
       have hfz30_1 := blk_frozen BK236.out 1
       have hfz30_2 := blk_frozen BK236.out 2
       have hfz30_3 := blk_frozen BK236.out 3
       go_wp2
       go_meet
       case rel => exact ⟨_, (true), (by first | rfl | (simp; done) | (simp [*]; done)), H', ⟨by first | omega | exact Nat.le_refl _⟩, ⟨kR (Kd.R_mono (Kd.R_far (p := ⟨gb236, 3, none⟩) (Kd.R_far (p := ⟨gb236, 2, none⟩) (Kd.R_far (p := ⟨gb236, 1, none⟩) (Kd.R_far (p := ⟨gb236, 0, none⟩) (Kd.R_mono HO234.out (fun k_ hk => (⟨hk, hk.2⟩ : _ ∧ k_ ≠ gb236))) (fun _ hk => hk.2) (.int .i64 t229)) (fun _ hk => hk.2) (.int .i64 t230)) (fun _ hk => hk.2) (.string t231)) (fun _ hk => hk.2) (.slice Ao23 t232.length co23)) (fun _ hk => hk.1.2))⟩, ⟨by (with_reducible repeat (first | refine blk_drewN ?_ _ | refine blk_drew ?_ | refine blk_alloc ?_ _)); refine blk_far ?_ NB227_236.out _; (with_reducible repeat (first | refine blk_drewN ?_ _ | refine blk_drew ?_ | refine blk_alloc ?_ _)); refine blk_far ?_ NB227_236.out _; (with_reducible repeat (first | refine blk_drewN ?_ _ | refine blk_drew ?_ | refine blk_alloc ?_ _)); refine blk_far ?_ NB227_236.out _; (with_reducible repeat (first | refine blk_drewN ?_ _ | refine blk_drew ?_ | refine blk_alloc ?_ _)); refine blk_far ?_ NB227_236.out _; (with_reducible repeat (first | refine blk_drewN ?_ _ | refine blk_drew ?_ | refine blk_alloc ?_ _)); exact BK227.out⟩, ⟨by (with_reducible repeat (first | refine blk_drewN ?_ _ | refine blk_drew ?_ | refine blk_alloc ?_ _)); refine blk_far ?_ NB228_236.out _; (with_reducible repeat (first | refine blk_drewN ?_ _ | refine blk_drew ?_ | refine blk_alloc ?_ _)); refine blk_far ?_ NB228_236.out _; (with_reducible repeat (first | refine blk_drewN ?_ _ | refine blk_drew ?_ | refine blk_alloc ?_ _)); refine blk_far ?_ NB228_236.out _; (with_reducible repeat (first | refine blk_drewN ?_ _ | refine blk_drew ?_ | refine blk_alloc ?_ _)); refine blk_far ?_ NB228_236.out _; (with_reducible repeat (first | refine blk_drewN ?_ _ | refine blk_drew ?_ | refine blk_alloc ?_ _)); exact BK228.out⟩, ⟨by (with_reducible repeat (first | refine blk_drewN ?_ _ | refine blk_drew ?_ | refine blk_alloc ?_ _)); refine blk_put (cs := #[.int .i64 t229, .int .i64 t230, .string t231, .slice none 0 0]) ?_ 3 _ rfl; (with_reducible repeat (first | refine blk_drewN ?_ _ | refine blk_drew ?_ | refine blk_alloc ?_ _)); refine blk_put (cs := #[.int .i64 t229, .int .i64 t230, .string (⟨#[]⟩ : ByteArray), .slice none 0 0]) ?_ 2 _ rfl; (with_reducible repeat (first | refine blk_drewN ?_ _ | refine blk_drew ?_ | refine blk_alloc ?_ _)); refine blk_put (cs := #[.int .i64 t229, .int .i64 0, .string (⟨#[]⟩ : ByteArray), .slice none 0 0]) ?_ 1 _ rfl; (with_reducible repeat (first | refine blk_drewN ?_ _ | refine blk_drew ?_ | refine blk_alloc ?_ _)); refine blk_put (cs := #[.int .i64 0, .int .i64 0, .string (⟨#[]⟩ : ByteArray), .slice none 0 0]) ?_ 0 _ rfl; (with_reducible repeat (first | refine blk_drewN ?_ _ | refine blk_drew ?_ | refine blk_alloc ?_ _)); exact BK236.out⟩, ⟨bb⟩⟩
     case rest =>
      clear HC13
      try clear c1
      try clear c2
      try clear c2b0
      try clear c2b1
      try clear p2
      try clear c5
      try clear p6
      try clear c9
      try clear c9b0
      try clear c9b1
      try clear c10
      try clear c10b0
      try clear c10b1
      try clear c12
      try clear c12b0
      try clear c12b1
      try clear c16
      try clear c20
      try clear c21
      try clear c22
      try clear c24
      try clear c24b0
      try clear c24b1
      try clear c25
      try clear c26
      try clear c28
      try clear c29
      try clear hcz17_0
      try clear hcz17_1
      try clear hcz17_2
      try clear hcz17_3
      try clear hcz22_0
      try clear hcz22_1
      try clear hcz22_2
      try clear hcz22_3
      try clear hcz27_0
      try clear hcz27_1
      try clear hcz27_2
      try clear hcz27_3
      try clear hcz30_0
      try clear hcz30_1
      try clear hcz30_2
      try clear hcz30_3
      try clear hcz6_0
      try clear hcz6_1
      try clear hcz6_2
      try clear hcz6_3
      try clear hcz7_0
      try clear hcz7_1
      try clear hcz7_2
      try clear hcz7_3
      try clear hfz17_0
      try clear hfz17_1
      try clear hfz17_2
      try clear hfz17_3
      try clear hfz22_0
      try clear hfz22_1
      try clear hfz22_2
      try clear hfz22_3
      try clear hfz27_0
      try clear hfz27_1
      try clear hfz27_2
      try clear hfz27_3
      try clear hfz30_0
      try clear hfz30_1
      try clear hfz30_2
      try clear hfz30_3
      try clear hfz6_0
      try clear hfz6_1
      try clear hfz6_2
      try clear hfz6_3
      try clear hfz7_0
      try clear hfz7_1
      try clear hfz7_2
      try clear hfz7_3
      obtain ⟨kq, x37_12, rfl, HA, HJ12, HO_237003, BK227, BK228, BK236, HB⟩ := hcut
      cases kq with
      | zero => exact absurd HA.out (by simp [precinctref09_Parse.j0])
      | succ kj12 =>
       have H := HA.out
       clear HA
       simp only [precinctref09_Parse.j0] at H
       by_cases c31 : x37_12 = true
       ·subst c31
        have H1 : (some (0, 0, 0, 0, (⟨#[]⟩ : ByteArray), 4)) = some (r1, r2, r3, r4, r5, r6) := by rw [if_pos rfl] at H; exact H
        clear H
        have H := H1
        clear H1
        simp only [Option.some.injEq, Prod.mk.injEq] at H
        obtain ⟨rfl, rfl, rfl, rfl, rfl, rfl⟩ := H
        have hnb32 := NB228_227.out
        have hnc32 := NB227_228.out
        have hnb33 := NB228_236.out
        have hnc33 := NB236_228.out
        have hcz34_0 : wc.cell? ⟨gb228, 0, none⟩ = some (.int .i64 0) := (blk_cell BK228.out 0).trans rfl
        have hcz34_1 : wc.cell? ⟨gb228, 1, none⟩ = some (.int .i64 0) := (blk_cell BK228.out 1).trans rfl
        have hcz34_2 : wc.cell? ⟨gb228, 2, none⟩ = some (.int .i64 0) := (blk_cell BK228.out 2).trans rfl
        have hcz34_3 : wc.cell? ⟨gb228, 3, none⟩ = some (.int .i64 0) := (blk_cell BK228.out 3).trans rfl
        have hfz34_0 := blk_frozen BK228.out 0
        have hfz34_1 := blk_frozen BK228.out 1
        have hfz34_2 := blk_frozen BK228.out 2
        have hfz34_3 := blk_frozen BK228.out 3
        have hnb35 := NB227_236.out
        have hnc35 := NB236_227.out
        have hcz36_0 : wc.cell? ⟨gb227, 0, none⟩ = some (.int .i64 0) := (blk_cell BK227.out 0).trans rfl
        have hcz36_1 : wc.cell? ⟨gb227, 1, none⟩ = some (.int .i64 0) := (blk_cell BK227.out 1).trans rfl
        have hcz36_2 : wc.cell? ⟨gb227, 2, none⟩ = some (.int .i64 0) := (blk_cell BK227.out 2).trans rfl
        have hcz36_3 : wc.cell? ⟨gb227, 3, none⟩ = some (.int .i64 0) := (blk_cell BK227.out 3).trans rfl
        have hfz36_0 := blk_frozen BK227.out 0
        have hfz36_1 := blk_frozen BK227.out 1
        have hfz36_2 := blk_frozen BK227.out 2
        have hfz36_3 := blk_frozen BK227.out 3
        go_wp2
        refine bodyPost_ret (results_ctt rfl _ _ gb227 27 #[.int .i64 0, .int .i64 0, .int .i64 0, .int .i64 0] (0, 0) _ rfl (rb (blk_put (cs := #[.int .i64 0, .int .i64 0, .int .i64 0, .int .i64 0]) (rb (blk_put (cs := #[.int .i64 0, .int .i64 0, .int .i64 0, .int .i64 0]) (rb (blk_put (cs := #[.int .i64 0, .int .i64 0, .int .i64 0, .int .i64 0]) (rb (blk_put (cs := #[.int .i64 0, .int .i64 0, .int .i64 0, .int .i64 0]) (rb BK227.out) 0 _ rfl)) 1 _ rfl)) 2 _ rfl)) 3 _ rfl)) Tryd.underlying27 rfl (by kernel_rfl)) rfl ?_
        exact ⟨by first | rfl | (simp [errW_none, errW_some] <;> rfl) | (simp only [← hji8]; first | rfl | (simp [errW_none, errW_some] <;> rfl)) | (simp [*, errW_none, errW_some] <;> rfl), bb⟩
       ·replace c31 := Bool.eq_false_iff.mpr c31
        subst c31
        have H1 : (precinctref09_Parse.l0 kj12 a0 ji8 0 0 0 0 0 t229 t230 t231 t232) = some (r1, r2, r3, r4, r5, r6) := by rw [if_neg (show ¬ (false = true) by decide)] at H; exact H
        clear H
        have H := H1
        clear H1
        have H' := Aside0.mk H
        clear H
        go_wp2
        go_loopg [9] kj12 (fun kq v9 w' => ∃ (x9_2 : Int) (x228000_2 : Int) (x228001_2 : Int) (x228002_2 : Int) (x228003_2 : Int), v9 = .int .i64 x9_2 ∧ Aside0 (precinctref09_Parse.l0 kq a0 ji8 x9_2 0 0 0 0 t229 t230 t231 t232 = some (r1, r2, r3, r4, r5, r6)) ∧ Aside0 (kq ≤ kj12) ∧ Aside0 (Kd.R k58 58 w' w.heap.size (fun k_ => k_ ≠ gb236) (.slice Ao23 t232.length co23) t232) ∧ Aside0 (w'.heap[gb227]? = some (.cells #[.int .i64 x228000_2, .int .i64 x228001_2, .int .i64 x228002_2, .int .i64 x228003_2] 27 (0, 0))) ∧ Aside0 (w'.heap[gb228]? = some (.cells #[.int .i64 0, .int .i64 0, .int .i64 0, .int .i64 0] 27 (0, 0))) ∧ Aside0 (w'.heap[gb236]? = some (.cells #[.int .i64 t229, .int .i64 t230, .string t231, (.slice Ao23 t232.length co23)] 58 (0, 0))) ∧ Aside0 (Below w.heap.size w w'))
        case atStart => exact ⟨(0), (0), (0), (0), (0), (by first | rfl | (simp; done) | (simp [*]; done)), H', ⟨Nat.le_refl _⟩, ⟨kR HO_237003.out⟩, ⟨by (with_reducible repeat (first | refine blk_drewN ?_ _ | refine blk_drew ?_ | refine blk_alloc ?_ _)); exact BK227.out⟩, ⟨by (with_reducible repeat (first | refine blk_drewN ?_ _ | refine blk_drew ?_ | refine blk_alloc ?_ _)); exact BK228.out⟩, ⟨by (with_reducible repeat (first | refine blk_drewN ?_ _ | refine blk_drew ?_ | refine blk_alloc ?_ _)); exact BK236.out⟩, ⟨bb⟩⟩
        case round =>
         clear H'
         try clear c1
         try clear c2
         try clear c2b0
         try clear c2b1
         try clear p2
         try clear c3
         try clear c5
         try clear p6
         try clear c9
         try clear c9b0
         try clear c9b1
         try clear c10
         try clear c10b0
         try clear c10b1
         try clear c12
         try clear c12b0
         try clear c12b1
         try clear c16
         try clear c20
         try clear c21
         try clear c22
         try clear c24
         try clear c24b0
         try clear c24b1
         try clear c25
         try clear c26
         try clear c28
         try clear c29
         try clear c31
         try clear c32
         try clear c33
         try clear c35
         try clear hcz17_0
         try clear hcz17_1
         try clear hcz17_2
         try clear hcz17_3
         try clear hcz22_0
         try clear hcz22_1
         try clear hcz22_2
         try clear hcz22_3
         try clear hcz27_0
         try clear hcz27_1
         try clear hcz27_2
         try clear hcz27_3
         try clear hcz30_0
         try clear hcz30_1
         try clear hcz30_2
         try clear hcz30_3
         try clear hcz34_0
         try clear hcz34_1
         try clear hcz34_2
         try clear hcz34_3
         try clear hcz36_0
         try clear hcz36_1
         try clear hcz36_2
         try clear hcz36_3
         try clear hcz6_0
         try clear hcz6_1
         try clear hcz6_2
         try clear hcz6_3
         try clear hcz7_0
         try clear hcz7_1
         try clear hcz7_2
         try clear hcz7_3
         try clear hfz17_0
         try clear hfz17_1
         try clear hfz17_2
         try clear hfz17_3
         try clear hfz22_0
         try clear hfz22_1
         try clear hfz22_2
         try clear hfz22_3
         try clear hfz27_0
         try clear hfz27_1
         try clear hfz27_2
         try clear hfz27_3
         try clear hfz30_0
         try clear hfz30_1
         try clear hfz30_2
         try clear hfz30_3
         try clear hfz34_0
         try clear hfz34_1
         try clear hfz34_2
         try clear hfz34_3
         try clear hfz36_0
         try clear hfz36_1
         try clear hfz36_2
         try clear hfz36_3
         try clear hfz6_0
         try clear hfz6_1
         try clear hfz6_2
         try clear hfz6_3
         try clear hfz7_0
         try clear hfz7_1
         try clear hfz7_2
         try clear hfz7_3
         try clear p2
         try clear p6
         obtain ⟨x9_2, x228000_2, x228001_2, x228002_2, x228003_2, rfl, HA, HK2, HO_237003, BK227, BK228, BK236, HB⟩ := hrel
         cases gk with
         | zero => exact absurd HA.out (by simp [precinctref09_Parse.l0])
         | succ k2 =>
          have H := HA.out
          clear HA
          simp only [precinctref09_Parse.l0] at H
          by_cases c37 : x9_2 < 4
          ·rw [if_pos c37] at H
           have c37b0 : decide (x9_2 < 4) = true := decide_eq_true c37
           clear c37
           by_cases c38 : 0 ≤ x9_2
           ·rw [if_pos c38] at H
            have c38b0 : decide (0 ≤ x9_2) = true := decide_eq_true c38
            clear c38
            by_cases c39 : x9_2 < (t232.length : Int)
            ·rw [if_pos c39] at H
             have c39b0 : decide (x9_2 < (t232.length : Int)) = true := decide_eq_true c39
             clear c39
             by_cases c40 : ((rd_T58 t232 x9_2).f0) = 0
             ·rw [if_pos c40] at H
              have c40b0 : (((rd_T58 t232 x9_2).f0) == 0) = true := beq_iff_eq.mpr c40
              have c40b1 : (((rd_T58 t232 x9_2).f0) != 0) = false := bne_eq_false_iff_eq.mpr c40
              clear c40
              by_cases c41 : x9_2 < 2
              ·rw [if_pos c41] at H
               have c41b0 : decide (x9_2 < 2) = true := decide_eq_true c41
               clear c41
               by_cases c42 : ((rd_T58 t232 x9_2).f1) < 0
               ·rw [if_pos c42] at H
                have c42b0 : decide (((rd_T58 t232 x9_2).f1) < 0) = true := decide_eq_true c42
                clear c42
                simp only [Option.some.injEq, Prod.mk.injEq] at H
                obtain ⟨rfl, rfl, rfl, rfl, rfl, rfl⟩ := H
                have hnb43 := NB236_227.out
                have hnc43 := NB227_236.out
                have hnb44 := NB236_228.out
                have hnc44 := NB228_236.out
                have hcz45_0 : wr.cell? ⟨gb236, 0, none⟩ = some (.int .i64 t229) := (blk_cell BK236.out 0).trans rfl
                have hcz45_1 : wr.cell? ⟨gb236, 1, none⟩ = some (.int .i64 t230) := (blk_cell BK236.out 1).trans rfl
                have hcz45_2 : wr.cell? ⟨gb236, 2, none⟩ = some (.string t231) := (blk_cell BK236.out 2).trans rfl
                have hcz45_3 : wr.cell? ⟨gb236, 3, none⟩ = some (.slice Ao23 t232.length co23) := (blk_cell BK236.out 3).trans rfl
                have hfz45_0 := blk_frozen BK236.out 0
                have hfz45_1 := blk_frozen BK236.out 1
                have hfz45_2 := blk_frozen BK236.out 2
                have hfz45_3 := blk_frozen BK236.out 3
                have p241 : 0 ≤ (x9_2 : Int) := of_decide_eq_true (by first | (with_reducible assumption) | assumption)
                have q241 : x9_2 < (t232.length : Int) := of_decide_eq_true (by first | (with_reducible assumption) | assumption)
                obtain ⟨ad241, A241_3, c241_3, e241, hx241_0, hx241_1, hx241_2, hx241_3, hl241_3, hi241_3⟩ := at_T58 (Kd.R_reads' HO_237003.out).2.2 x9_2 p241 q241
                cases e241
                obtain ⟨ce241, hce241, hMe241, hcc241⟩ := Kd.R_get HO_237003.out z58 x9_2 p241 (by first | exact q241 | exact of_decide_eq_true (by first | (with_reducible assumption) | assumption) | (have e_ := (Kd.R_reads' HO_237003.out).1; omega))
                obtain ⟨ve241_3, rfl, ge241_3⟩ := k58_openM hMe241
                have hv241_3 := hcc241 3 _ rfl
                rw [add_field _ _ 3 (by omega)] at hv241_3
                replace hv241_3 := Option.some.inj (hv241_3.symm.trans hx241_3)
                rw [hv241_3] at ge241_3
                have HL241_3 := Aside0.mk (show Kd.R k58 58 _ _ _ _ ((rd_T58 t232 x9_2).f3) from ge241_3)
                clear hv241_3 ge241_3
                clear hcc241 hce241
                have HR241_3 := Aside0.mk hi241_3
                have HC241_3 := Aside0.mk hl241_3
                clear hi241_3 hl241_3
                replace p241 := eq_true p241
                replace q241 := eq_true q241
                have p242 : 0 ≤ (x9_2 : Int) := of_decide_eq_true (by first | (with_reducible assumption) | assumption)
                have q242 : x9_2 < (t232.length : Int) := of_decide_eq_true (by first | (with_reducible assumption) | assumption)
                obtain ⟨ad242, A242_3, c242_3, e242, hx242_0, hx242_1, hx242_2, hx242_3, hl242_3, hi242_3⟩ := at_T58 (Kd.R_reads' HO_237003.out).2.2 x9_2 p242 q242
                obtain rfl : ad241 = ad242 := (by injection e242)
                obtain ⟨ce242, hce242, hMe242, hcc242⟩ := Kd.R_get HO_237003.out z58 x9_2 p242 (by first | exact q242 | exact of_decide_eq_true (by first | (with_reducible assumption) | assumption) | (have e_ := (Kd.R_reads' HO_237003.out).1; omega))
                obtain ⟨ve242_3, rfl, ge242_3⟩ := k58_openM hMe242
                have hv242_3 := hcc242 3 _ rfl
                rw [add_field _ _ 3 (by omega)] at hv242_3
                replace hv242_3 := Option.some.inj (hv242_3.symm.trans hx242_3)
                rw [hv242_3] at ge242_3
                have HL242_3 := Aside0.mk (show Kd.R k58 58 _ _ _ _ ((rd_T58 t232 x9_2).f3) from ge242_3)
                clear hv242_3 ge242_3
                clear hcc242 hce242
                have HR242_3 := Aside0.mk hi242_3
                have HC242_3 := Aside0.mk hl242_3
                clear hi242_3 hl242_3
                replace p242 := eq_true p242
                replace q242 := eq_true q242
                have ea_ := Option.some.inj (hx241_3.symm.trans hx242_3)
                injection ea_ with ea_ en_ ec_
                subst ea_
                subst ec_
                clear en_
                have hnb46 := NB228_227.out
                have hnc46 := NB227_228.out
                have hcz47_0 : wr.cell? ⟨gb228, 0, none⟩ = some (.int .i64 0) := (blk_cell BK228.out 0).trans rfl
                have hcz47_1 : wr.cell? ⟨gb228, 1, none⟩ = some (.int .i64 0) := (blk_cell BK228.out 1).trans rfl
                have hcz47_2 : wr.cell? ⟨gb228, 2, none⟩ = some (.int .i64 0) := (blk_cell BK228.out 2).trans rfl
                have hcz47_3 : wr.cell? ⟨gb228, 3, none⟩ = some (.int .i64 0) := (blk_cell BK228.out 3).trans rfl
                have hfz47_0 := blk_frozen BK228.out 0
                have hfz47_1 := blk_frozen BK228.out 1
                have hfz47_2 := blk_frozen BK228.out 2
                have hfz47_3 := blk_frozen BK228.out 3
                have hcz48_0 : wr.cell? ⟨gb227, 0, none⟩ = some (.int .i64 x228000_2) := (blk_cell BK227.out 0).trans rfl
                have hcz48_1 : wr.cell? ⟨gb227, 1, none⟩ = some (.int .i64 x228001_2) := (blk_cell BK227.out 1).trans rfl
                have hcz48_2 : wr.cell? ⟨gb227, 2, none⟩ = some (.int .i64 x228002_2) := (blk_cell BK227.out 2).trans rfl
                have hcz48_3 : wr.cell? ⟨gb227, 3, none⟩ = some (.int .i64 x228003_2) := (blk_cell BK227.out 3).trans rfl
                have hfz48_0 := blk_frozen BK227.out 0
                have hfz48_1 := blk_frozen BK227.out 1
                have hfz48_2 := blk_frozen BK227.out 2
                have hfz48_3 := blk_frozen BK227.out 3
                go_wp2
                refine bodyPost_ret (results_ctt rfl _ _ gb227 27 #[.int .i64 0, .int .i64 0, .int .i64 0, .int .i64 0] (0, 0) _ rfl (rb (blk_put (cs := #[.int .i64 0, .int .i64 0, .int .i64 0, .int .i64 x228003_2]) (rb (blk_put (cs := #[.int .i64 0, .int .i64 0, .int .i64 x228002_2, .int .i64 x228003_2]) (rb (blk_put (cs := #[.int .i64 0, .int .i64 x228001_2, .int .i64 x228002_2, .int .i64 x228003_2]) (rb (blk_put (cs := #[.int .i64 x228000_2, .int .i64 x228001_2, .int .i64 x228002_2, .int .i64 x228003_2]) (rb BK227.out) 0 _ rfl)) 1 _ rfl)) 2 _ rfl)) 3 _ rfl)) Tryd.underlying27 rfl (by kernel_rfl)) rfl ?_
                exact ⟨by first | rfl | (simp [errW_none, errW_some] <;> rfl) | (simp only [← hji8]; first | rfl | (simp [errW_none, errW_some] <;> rfl)) | (simp [*, errW_none, errW_some] <;> rfl), bb⟩
               ·rw [if_neg c42] at H
                have c42b0 : decide (((rd_T58 t232 x9_2).f1) < 0) = false := decide_eq_false c42
                clear c42
                by_cases c49 : ((rd_T58 t232 x9_2).f1) > 2147483647
                ·rw [if_pos c49] at H
                 have c49b0 : decide (2147483647 < ((rd_T58 t232 x9_2).f1)) = true := decide_eq_true c49
                 clear c49
                 simp only [Option.some.injEq, Prod.mk.injEq] at H
                 obtain ⟨rfl, rfl, rfl, rfl, rfl, rfl⟩ := H
                 have hnb50 := NB236_227.out
                 have hnc50 := NB227_236.out
                 have hnb51 := NB236_228.out
                 have hnc51 := NB228_236.out
                 have hcz52_0 : wr.cell? ⟨gb236, 0, none⟩ = some (.int .i64 t229) := (blk_cell BK236.out 0).trans rfl
                 have hcz52_1 : wr.cell? ⟨gb236, 1, none⟩ = some (.int .i64 t230) := (blk_cell BK236.out 1).trans rfl
                 have hcz52_2 : wr.cell? ⟨gb236, 2, none⟩ = some (.string t231) := (blk_cell BK236.out 2).trans rfl
                 have hcz52_3 : wr.cell? ⟨gb236, 3, none⟩ = some (.slice Ao23 t232.length co23) := (blk_cell BK236.out 3).trans rfl
                 have hfz52_0 := blk_frozen BK236.out 0
                 have hfz52_1 := blk_frozen BK236.out 1
                 have hfz52_2 := blk_frozen BK236.out 2
                 have hfz52_3 := blk_frozen BK236.out 3
                 have p241 : 0 ≤ (x9_2 : Int) := of_decide_eq_true (by first | (with_reducible assumption) | assumption)
                 have q241 : x9_2 < (t232.length : Int) := of_decide_eq_true (by first | (with_reducible assumption) | assumption)
                 obtain ⟨ad241, A241_3, c241_3, e241, hx241_0, hx241_1, hx241_2, hx241_3, hl241_3, hi241_3⟩ := at_T58 (Kd.R_reads' HO_237003.out).2.2 x9_2 p241 q241
                 cases e241
                 obtain ⟨ce241, hce241, hMe241, hcc241⟩ := Kd.R_get HO_237003.out z58 x9_2 p241 (by first | exact q241 | exact of_decide_eq_true (by first | (with_reducible assumption) | assumption) | (have e_ := (Kd.R_reads' HO_237003.out).1; omega))
                 obtain ⟨ve241_3, rfl, ge241_3⟩ := k58_openM hMe241
                 have hv241_3 := hcc241 3 _ rfl
                 rw [add_field _ _ 3 (by omega)] at hv241_3
                 replace hv241_3 := Option.some.inj (hv241_3.symm.trans hx241_3)
                 rw [hv241_3] at ge241_3
                 have HL241_3 := Aside0.mk (show Kd.R k58 58 _ _ _ _ ((rd_T58 t232 x9_2).f3) from ge241_3)
                 clear hv241_3 ge241_3
                 clear hcc241 hce241
                 have HR241_3 := Aside0.mk hi241_3
                 have HC241_3 := Aside0.mk hl241_3
                 clear hi241_3 hl241_3
                 replace p241 := eq_true p241
                 replace q241 := eq_true q241
                 have p242 : 0 ≤ (x9_2 : Int) := of_decide_eq_true (by first | (with_reducible assumption) | assumption)
                 have q242 : x9_2 < (t232.length : Int) := of_decide_eq_true (by first | (with_reducible assumption) | assumption)
                 obtain ⟨ad242, A242_3, c242_3, e242, hx242_0, hx242_1, hx242_2, hx242_3, hl242_3, hi242_3⟩ := at_T58 (Kd.R_reads' HO_237003.out).2.2 x9_2 p242 q242
                 obtain rfl : ad241 = ad242 := (by injection e242)
                 obtain ⟨ce242, hce242, hMe242, hcc242⟩ := Kd.R_get HO_237003.out z58 x9_2 p242 (by first | exact q242 | exact of_decide_eq_true (by first | (with_reducible assumption) | assumption) | (have e_ := (Kd.R_reads' HO_237003.out).1; omega))
                 obtain ⟨ve242_3, rfl, ge242_3⟩ := k58_openM hMe242
                 have hv242_3 := hcc242 3 _ rfl
                 rw [add_field _ _ 3 (by omega)] at hv242_3
                 replace hv242_3 := Option.some.inj (hv242_3.symm.trans hx242_3)
                 rw [hv242_3] at ge242_3
                 have HL242_3 := Aside0.mk (show Kd.R k58 58 _ _ _ _ ((rd_T58 t232 x9_2).f3) from ge242_3)
                 clear hv242_3 ge242_3
                 clear hcc242 hce242
                 have HR242_3 := Aside0.mk hi242_3
                 have HC242_3 := Aside0.mk hl242_3
                 clear hi242_3 hl242_3
                 replace p242 := eq_true p242
                 replace q242 := eq_true q242
                 have ea_ := Option.some.inj (hx241_3.symm.trans hx242_3)
                 injection ea_ with ea_ en_ ec_
                 subst ea_
                 subst ec_
                 clear en_
                 have p243 : 0 ≤ (x9_2 : Int) := of_decide_eq_true (by first | (with_reducible assumption) | assumption)
                 have q243 : x9_2 < (t232.length : Int) := of_decide_eq_true (by first | (with_reducible assumption) | assumption)
                 obtain ⟨ad243, A243_3, c243_3, e243, hx243_0, hx243_1, hx243_2, hx243_3, hl243_3, hi243_3⟩ := at_T58 (Kd.R_reads' HO_237003.out).2.2 x9_2 p243 q243
                 obtain rfl : ad241 = ad243 := (by injection e243)
                 obtain ⟨ce243, hce243, hMe243, hcc243⟩ := Kd.R_get HO_237003.out z58 x9_2 p243 (by first | exact q243 | exact of_decide_eq_true (by first | (with_reducible assumption) | assumption) | (have e_ := (Kd.R_reads' HO_237003.out).1; omega))
                 obtain ⟨ve243_3, rfl, ge243_3⟩ := k58_openM hMe243
                 have hv243_3 := hcc243 3 _ rfl
                 rw [add_field _ _ 3 (by omega)] at hv243_3
                 replace hv243_3 := Option.some.inj (hv243_3.symm.trans hx243_3)
                 rw [hv243_3] at ge243_3
                 have HL243_3 := Aside0.mk (show Kd.R k58 58 _ _ _ _ ((rd_T58 t232 x9_2).f3) from ge243_3)
                 clear hv243_3 ge243_3
                 clear hcc243 hce243
                 have HR243_3 := Aside0.mk hi243_3
                 have HC243_3 := Aside0.mk hl243_3
                 clear hi243_3 hl243_3
                 replace p243 := eq_true p243
                 replace q243 := eq_true q243
                 have ea_ := Option.some.inj (hx241_3.symm.trans hx243_3)
                 injection ea_ with ea_ en_ ec_
                 subst ea_
                 subst ec_
                 clear en_
                 have hnb53 := NB228_227.out
                 have hnc53 := NB227_228.out
                 have hcz54_0 : wr.cell? ⟨gb228, 0, none⟩ = some (.int .i64 0) := (blk_cell BK228.out 0).trans rfl
                 have hcz54_1 : wr.cell? ⟨gb228, 1, none⟩ = some (.int .i64 0) := (blk_cell BK228.out 1).trans rfl
                 have hcz54_2 : wr.cell? ⟨gb228, 2, none⟩ = some (.int .i64 0) := (blk_cell BK228.out 2).trans rfl
                 have hcz54_3 : wr.cell? ⟨gb228, 3, none⟩ = some (.int .i64 0) := (blk_cell BK228.out 3).trans rfl
                 have hfz54_0 := blk_frozen BK228.out 0
                 have hfz54_1 := blk_frozen BK228.out 1
                 have hfz54_2 := blk_frozen BK228.out 2
                 have hfz54_3 := blk_frozen BK228.out 3
                 have hcz55_0 : wr.cell? ⟨gb227, 0, none⟩ = some (.int .i64 x228000_2) := (blk_cell BK227.out 0).trans rfl
                 have hcz55_1 : wr.cell? ⟨gb227, 1, none⟩ = some (.int .i64 x228001_2) := (blk_cell BK227.out 1).trans rfl
                 have hcz55_2 : wr.cell? ⟨gb227, 2, none⟩ = some (.int .i64 x228002_2) := (blk_cell BK227.out 2).trans rfl
                 have hcz55_3 : wr.cell? ⟨gb227, 3, none⟩ = some (.int .i64 x228003_2) := (blk_cell BK227.out 3).trans rfl
                 have hfz55_0 := blk_frozen BK227.out 0
                 have hfz55_1 := blk_frozen BK227.out 1
                 have hfz55_2 := blk_frozen BK227.out 2
                 have hfz55_3 := blk_frozen BK227.out 3
                 go_wp2
                 refine bodyPost_ret (results_ctt rfl _ _ gb227 27 #[.int .i64 0, .int .i64 0, .int .i64 0, .int .i64 0] (0, 0) _ rfl (rb (blk_put (cs := #[.int .i64 0, .int .i64 0, .int .i64 0, .int .i64 x228003_2]) (rb (blk_put (cs := #[.int .i64 0, .int .i64 0, .int .i64 x228002_2, .int .i64 x228003_2]) (rb (blk_put (cs := #[.int .i64 0, .int .i64 x228001_2, .int .i64 x228002_2, .int .i64 x228003_2]) (rb (blk_put (cs := #[.int .i64 x228000_2, .int .i64 x228001_2, .int .i64 x228002_2, .int .i64 x228003_2]) (rb BK227.out) 0 _ rfl)) 1 _ rfl)) 2 _ rfl)) 3 _ rfl)) Tryd.underlying27 rfl (by kernel_rfl)) rfl ?_
                 exact ⟨by first | rfl | (simp [errW_none, errW_some] <;> rfl) | (simp only [← hji8]; first | rfl | (simp [errW_none, errW_some] <;> rfl)) | (simp [*, errW_none, errW_some] <;> rfl), bb⟩
                ·rw [if_neg c49] at H
                 have c49b0 : decide (2147483647 < ((rd_T58 t232 x9_2).f1)) = false := decide_eq_false c49
                 clear c49
                 have H' := Aside0.mk H
                 clear H
                 have hnb56 := NB236_227.out
                 have hnc56 := NB227_236.out
                 have hnb57 := NB236_228.out
                 have hnc57 := NB228_236.out
                 have hcz58_0 : wr.cell? ⟨gb236, 0, none⟩ = some (.int .i64 t229) := (blk_cell BK236.out 0).trans rfl
                 have hcz58_1 : wr.cell? ⟨gb236, 1, none⟩ = some (.int .i64 t230) := (blk_cell BK236.out 1).trans rfl
                 have hcz58_2 : wr.cell? ⟨gb236, 2, none⟩ = some (.string t231) := (blk_cell BK236.out 2).trans rfl
                 have hcz58_3 : wr.cell? ⟨gb236, 3, none⟩ = some (.slice Ao23 t232.length co23) := (blk_cell BK236.out 3).trans rfl
                 have hfz58_0 := blk_frozen BK236.out 0
                 have hfz58_1 := blk_frozen BK236.out 1
                 have hfz58_2 := blk_frozen BK236.out 2
                 have hfz58_3 := blk_frozen BK236.out 3
                 have p241 : 0 ≤ (x9_2 : Int) := of_decide_eq_true (by first | (with_reducible assumption) | assumption)
                 have q241 : x9_2 < (t232.length : Int) := of_decide_eq_true (by first | (with_reducible assumption) | assumption)
                 obtain ⟨ad241, A241_3, c241_3, e241, hx241_0, hx241_1, hx241_2, hx241_3, hl241_3, hi241_3⟩ := at_T58 (Kd.R_reads' HO_237003.out).2.2 x9_2 p241 q241
                 cases e241
                 obtain ⟨ce241, hce241, hMe241, hcc241⟩ := Kd.R_get HO_237003.out z58 x9_2 p241 (by first | exact q241 | exact of_decide_eq_true (by first | (with_reducible assumption) | assumption) | (have e_ := (Kd.R_reads' HO_237003.out).1; omega))
                 obtain ⟨ve241_3, rfl, ge241_3⟩ := k58_openM hMe241
                 have hv241_3 := hcc241 3 _ rfl
                 rw [add_field _ _ 3 (by omega)] at hv241_3
                 replace hv241_3 := Option.some.inj (hv241_3.symm.trans hx241_3)
                 rw [hv241_3] at ge241_3
                 have HL241_3 := Aside0.mk (show Kd.R k58 58 _ _ _ _ ((rd_T58 t232 x9_2).f3) from ge241_3)
                 clear hv241_3 ge241_3
                 clear hcc241 hce241
                 have HR241_3 := Aside0.mk hi241_3
                 have HC241_3 := Aside0.mk hl241_3
                 clear hi241_3 hl241_3
                 replace p241 := eq_true p241
                 replace q241 := eq_true q241
                 have p242 : 0 ≤ (x9_2 : Int) := of_decide_eq_true (by first | (with_reducible assumption) | assumption)
                 have q242 : x9_2 < (t232.length : Int) := of_decide_eq_true (by first | (with_reducible assumption) | assumption)
                 obtain ⟨ad242, A242_3, c242_3, e242, hx242_0, hx242_1, hx242_2, hx242_3, hl242_3, hi242_3⟩ := at_T58 (Kd.R_reads' HO_237003.out).2.2 x9_2 p242 q242
                 obtain rfl : ad241 = ad242 := (by injection e242)
                 obtain ⟨ce242, hce242, hMe242, hcc242⟩ := Kd.R_get HO_237003.out z58 x9_2 p242 (by first | exact q242 | exact of_decide_eq_true (by first | (with_reducible assumption) | assumption) | (have e_ := (Kd.R_reads' HO_237003.out).1; omega))
                 obtain ⟨ve242_3, rfl, ge242_3⟩ := k58_openM hMe242
                 have hv242_3 := hcc242 3 _ rfl
                 rw [add_field _ _ 3 (by omega)] at hv242_3
                 replace hv242_3 := Option.some.inj (hv242_3.symm.trans hx242_3)
                 rw [hv242_3] at ge242_3
                 have HL242_3 := Aside0.mk (show Kd.R k58 58 _ _ _ _ ((rd_T58 t232 x9_2).f3) from ge242_3)
                 clear hv242_3 ge242_3
                 clear hcc242 hce242
                 have HR242_3 := Aside0.mk hi242_3
                 have HC242_3 := Aside0.mk hl242_3
                 clear hi242_3 hl242_3
                 replace p242 := eq_true p242
                 replace q242 := eq_true q242
                 have ea_ := Option.some.inj (hx241_3.symm.trans hx242_3)
                 injection ea_ with ea_ en_ ec_
                 subst ea_
                 subst ec_
                 clear en_
                 have p243 : 0 ≤ (x9_2 : Int) := of_decide_eq_true (by first | (with_reducible assumption) | assumption)
                 have q243 : x9_2 < (t232.length : Int) := of_decide_eq_true (by first | (with_reducible assumption) | assumption)
                 obtain ⟨ad243, A243_3, c243_3, e243, hx243_0, hx243_1, hx243_2, hx243_3, hl243_3, hi243_3⟩ := at_T58 (Kd.R_reads' HO_237003.out).2.2 x9_2 p243 q243
                 obtain rfl : ad241 = ad243 := (by injection e243)
                 obtain ⟨ce243, hce243, hMe243, hcc243⟩ := Kd.R_get HO_237003.out z58 x9_2 p243 (by first | exact q243 | exact of_decide_eq_true (by first | (with_reducible assumption) | assumption) | (have e_ := (Kd.R_reads' HO_237003.out).1; omega))
                 obtain ⟨ve243_3, rfl, ge243_3⟩ := k58_openM hMe243
                 have hv243_3 := hcc243 3 _ rfl
                 rw [add_field _ _ 3 (by omega)] at hv243_3
                 replace hv243_3 := Option.some.inj (hv243_3.symm.trans hx243_3)
                 rw [hv243_3] at ge243_3
                 have HL243_3 := Aside0.mk (show Kd.R k58 58 _ _ _ _ ((rd_T58 t232 x9_2).f3) from ge243_3)
                 clear hv243_3 ge243_3
                 clear hcc243 hce243
                 have HR243_3 := Aside0.mk hi243_3
                 have HC243_3 := Aside0.mk hl243_3
                 clear hi243_3 hl243_3
                 replace p243 := eq_true p243
                 replace q243 := eq_true q243
                 have ea_ := Option.some.inj (hx241_3.symm.trans hx243_3)
                 injection ea_ with ea_ en_ ec_
                 subst ea_
                 subst ec_
                 clear en_
                 go_wp2
                 go_roundg k2
                 case measure => have := HJ12.out; have := HK2.out; omega
                 case rel => exact ⟨(wrap64 (x9_2 + 1)), (x228000_2), (x228001_2), (x228002_2), (x228003_2), (by first | rfl | (simp; done) | (simp [*]; done)), H', ⟨by have := HJ12.out; have := HK2.out; omega⟩, ⟨kR HO_237003.out⟩, ⟨by (with_reducible repeat (first | refine blk_drewN ?_ _ | refine blk_drew ?_ | refine blk_alloc ?_ _)); exact BK227.out⟩, ⟨by (with_reducible repeat (first | refine blk_drewN ?_ _ | refine blk_drew ?_ | refine blk_alloc ?_ _)); exact BK228.out⟩, ⟨by (with_reducible repeat (first | refine blk_drewN ?_ _ | refine blk_drew ?_ | refine blk_alloc ?_ _)); exact BK236.out⟩, ⟨bb⟩⟩
              ·rw [if_neg c41] at H
               have c41b0 : decide (x9_2 < 2) = false := decide_eq_false c41
               clear c41
               have H' := Aside0.mk H
               clear H
               have hnb59 := NB236_227.out
               have hnc59 := NB227_236.out
               have hnb60 := NB236_228.out
               have hnc60 := NB228_236.out
               have hcz61_0 : wr.cell? ⟨gb236, 0, none⟩ = some (.int .i64 t229) := (blk_cell BK236.out 0).trans rfl
               have hcz61_1 : wr.cell? ⟨gb236, 1, none⟩ = some (.int .i64 t230) := (blk_cell BK236.out 1).trans rfl
               have hcz61_2 : wr.cell? ⟨gb236, 2, none⟩ = some (.string t231) := (blk_cell BK236.out 2).trans rfl
               have hcz61_3 : wr.cell? ⟨gb236, 3, none⟩ = some (.slice Ao23 t232.length co23) := (blk_cell BK236.out 3).trans rfl
               have hfz61_0 := blk_frozen BK236.out 0
               have hfz61_1 := blk_frozen BK236.out 1
               have hfz61_2 := blk_frozen BK236.out 2
               have hfz61_3 := blk_frozen BK236.out 3
               have p241 : 0 ≤ (x9_2 : Int) := of_decide_eq_true (by first | (with_reducible assumption) | assumption)
               have q241 : x9_2 < (t232.length : Int) := of_decide_eq_true (by first | (with_reducible assumption) | assumption)
               obtain ⟨ad241, A241_3, c241_3, e241, hx241_0, hx241_1, hx241_2, hx241_3, hl241_3, hi241_3⟩ := at_T58 (Kd.R_reads' HO_237003.out).2.2 x9_2 p241 q241
               cases e241
               obtain ⟨ce241, hce241, hMe241, hcc241⟩ := Kd.R_get HO_237003.out z58 x9_2 p241 (by first | exact q241 | exact of_decide_eq_true (by first | (with_reducible assumption) | assumption) | (have e_ := (Kd.R_reads' HO_237003.out).1; omega))
               obtain ⟨ve241_3, rfl, ge241_3⟩ := k58_openM hMe241
               have hv241_3 := hcc241 3 _ rfl
               rw [add_field _ _ 3 (by omega)] at hv241_3
               replace hv241_3 := Option.some.inj (hv241_3.symm.trans hx241_3)
               rw [hv241_3] at ge241_3
               have HL241_3 := Aside0.mk (show Kd.R k58 58 _ _ _ _ ((rd_T58 t232 x9_2).f3) from ge241_3)
               clear hv241_3 ge241_3
               clear hcc241 hce241
               have HR241_3 := Aside0.mk hi241_3
               have HC241_3 := Aside0.mk hl241_3
               clear hi241_3 hl241_3
               replace p241 := eq_true p241
               replace q241 := eq_true q241
               go_wp2
               go_roundg k2
               case measure => have := HJ12.out; have := HK2.out; omega
               case rel => exact ⟨(wrap64 (x9_2 + 1)), (x228000_2), (x228001_2), (x228002_2), (x228003_2), (by first | rfl | (simp; done) | (simp [*]; done)), H', ⟨by have := HJ12.out; have := HK2.out; omega⟩, ⟨kR HO_237003.out⟩, ⟨by (with_reducible repeat (first | refine blk_drewN ?_ _ | refine blk_drew ?_ | refine blk_alloc ?_ _)); exact BK227.out⟩, ⟨by (with_reducible repeat (first | refine blk_drewN ?_ _ | refine blk_drew ?_ | refine blk_alloc ?_ _)); exact BK228.out⟩, ⟨by (with_reducible repeat (first | refine blk_drewN ?_ _ | refine blk_drew ?_ | refine blk_alloc ?_ _)); exact BK236.out⟩, ⟨bb⟩⟩
             ·rw [if_neg c40] at H
              have c40b0 : (((rd_T58 t232 x9_2).f0) == 0) = false := beq_eq_false_iff_ne.mpr c40
              have c40b1 : (((rd_T58 t232 x9_2).f0) != 0) = true := bne_iff_ne.mpr c40
              simp only [Option.some.injEq, Prod.mk.injEq] at H
              obtain ⟨rfl, rfl, rfl, rfl, rfl, rfl⟩ := H
              have hnb62 := NB236_227.out
              have hnc62 := NB227_236.out
              have hnb63 := NB236_228.out
              have hnc63 := NB228_236.out
              have hcz64_0 : wr.cell? ⟨gb236, 0, none⟩ = some (.int .i64 t229) := (blk_cell BK236.out 0).trans rfl
              have hcz64_1 : wr.cell? ⟨gb236, 1, none⟩ = some (.int .i64 t230) := (blk_cell BK236.out 1).trans rfl
              have hcz64_2 : wr.cell? ⟨gb236, 2, none⟩ = some (.string t231) := (blk_cell BK236.out 2).trans rfl
              have hcz64_3 : wr.cell? ⟨gb236, 3, none⟩ = some (.slice Ao23 t232.length co23) := (blk_cell BK236.out 3).trans rfl
              have hfz64_0 := blk_frozen BK236.out 0
              have hfz64_1 := blk_frozen BK236.out 1
              have hfz64_2 := blk_frozen BK236.out 2
              have hfz64_3 := blk_frozen BK236.out 3
              have p241 : 0 ≤ (x9_2 : Int) := of_decide_eq_true (by first | (with_reducible assumption) | assumption)
              have q241 : x9_2 < (t232.length : Int) := of_decide_eq_true (by first | (with_reducible assumption) | assumption)
              obtain ⟨ad241, A241_3, c241_3, e241, hx241_0, hx241_1, hx241_2, hx241_3, hl241_3, hi241_3⟩ := at_T58 (Kd.R_reads' HO_237003.out).2.2 x9_2 p241 q241
              cases e241
              obtain ⟨ce241, hce241, hMe241, hcc241⟩ := Kd.R_get HO_237003.out z58 x9_2 p241 (by first | exact q241 | exact of_decide_eq_true (by first | (with_reducible assumption) | assumption) | (have e_ := (Kd.R_reads' HO_237003.out).1; omega))
              obtain ⟨ve241_3, rfl, ge241_3⟩ := k58_openM hMe241
              have hv241_3 := hcc241 3 _ rfl
              rw [add_field _ _ 3 (by omega)] at hv241_3
              replace hv241_3 := Option.some.inj (hv241_3.symm.trans hx241_3)
              rw [hv241_3] at ge241_3
              have HL241_3 := Aside0.mk (show Kd.R k58 58 _ _ _ _ ((rd_T58 t232 x9_2).f3) from ge241_3)
              clear hv241_3 ge241_3
              clear hcc241 hce241
              have HR241_3 := Aside0.mk hi241_3
              have HC241_3 := Aside0.mk hl241_3
              clear hi241_3 hl241_3
              replace p241 := eq_true p241
              replace q241 := eq_true q241
              have hnb65 := NB228_227.out
              have hnc65 := NB227_228.out
              have hcz66_0 : wr.cell? ⟨gb228, 0, none⟩ = some (.int .i64 0) := (blk_cell BK228.out 0).trans rfl
              have hcz66_1 : wr.cell? ⟨gb228, 1, none⟩ = some (.int .i64 0) := (blk_cell BK228.out 1).trans rfl
              have hcz66_2 : wr.cell? ⟨gb228, 2, none⟩ = some (.int .i64 0) := (blk_cell BK228.out 2).trans rfl
              have hcz66_3 : wr.cell? ⟨gb228, 3, none⟩ = some (.int .i64 0) := (blk_cell BK228.out 3).trans rfl
              have hfz66_0 := blk_frozen BK228.out 0
              have hfz66_1 := blk_frozen BK228.out 1
              have hfz66_2 := blk_frozen BK228.out 2
              have hfz66_3 := blk_frozen BK228.out 3
              have hcz67_0 : wr.cell? ⟨gb227, 0, none⟩ = some (.int .i64 x228000_2) := (blk_cell BK227.out 0).trans rfl
              have hcz67_1 : wr.cell? ⟨gb227, 1, none⟩ = some (.int .i64 x228001_2) := (blk_cell BK227.out 1).trans rfl
              have hcz67_2 : wr.cell? ⟨gb227, 2, none⟩ = some (.int .i64 x228002_2) := (blk_cell BK227.out 2).trans rfl
              have hcz67_3 : wr.cell? ⟨gb227, 3, none⟩ = some (.int .i64 x228003_2) := (blk_cell BK227.out 3).trans rfl
              have hfz67_0 := blk_frozen BK227.out 0
              have hfz67_1 := blk_frozen BK227.out 1
              have hfz67_2 := blk_frozen BK227.out 2
              have hfz67_3 := blk_frozen BK227.out 3
              go_wp2
              refine bodyPost_ret (results_ctt rfl _ _ gb227 27 #[.int .i64 0, .int .i64 0, .int .i64 0, .int .i64 0] (0, 0) _ rfl (rb (blk_put (cs := #[.int .i64 0, .int .i64 0, .int .i64 0, .int .i64 x228003_2]) (rb (blk_put (cs := #[.int .i64 0, .int .i64 0, .int .i64 x228002_2, .int .i64 x228003_2]) (rb (blk_put (cs := #[.int .i64 0, .int .i64 x228001_2, .int .i64 x228002_2, .int .i64 x228003_2]) (rb (blk_put (cs := #[.int .i64 x228000_2, .int .i64 x228001_2, .int .i64 x228002_2, .int .i64 x228003_2]) (rb BK227.out) 0 _ rfl)) 1 _ rfl)) 2 _ rfl)) 3 _ rfl)) Tryd.underlying27 rfl (by kernel_rfl)) rfl ?_
              exact ⟨by first | rfl | (simp [errW_none, errW_some] <;> rfl) | (simp only [← hji8]; first | rfl | (simp [errW_none, errW_some] <;> rfl)) | (simp [*, errW_none, errW_some] <;> rfl), bb⟩
            ·rw [if_neg c39] at H
             exact absurd H (by simp)
           ·rw [if_neg c38] at H
            exact absurd H (by simp)
          ·rw [if_neg c37] at H
           have c37b0 : decide (x9_2 < 4) = false := decide_eq_false c37
           clear c37
           by_cases c68 : 0 < (t232.length : Int)
           ·rw [if_pos c68] at H
            have c68b0 : decide (0 < (t232.length : Int)) = true := decide_eq_true c68
            have c68b1 : decide (0 < t232.length) = true := decide_eq_true (by omega)
            clear c68
            by_cases c69 : 1 < (t232.length : Int)
            ·rw [if_pos c69] at H
             have c69b0 : decide (1 < (t232.length : Int)) = true := decide_eq_true c69
             have c69b1 : decide (1 < t232.length) = true := decide_eq_true (by omega)
             clear c69
             by_cases c70 : 2 < (t232.length : Int)
             ·rw [if_pos c70] at H
              have c70b0 : decide (2 < (t232.length : Int)) = true := decide_eq_true c70
              have c70b1 : decide (2 < t232.length) = true := decide_eq_true (by omega)
              clear c70
              by_cases c71 : 3 < (t232.length : Int)
              ·rw [if_pos c71] at H
               have c71b0 : decide (3 < (t232.length : Int)) = true := decide_eq_true c71
               have c71b1 : decide (3 < t232.length) = true := decide_eq_true (by omega)
               clear c71
               by_cases c72 : 0 ≤ ji8
               ·rw [if_pos c72] at H
                have c72b0 := eq_true c72
                have c72b1 : decide (0 ≤ ji8) = true := decide_eq_true c72
                clear c72
                by_cases c73 : ji8 ≤ (a0.size : Int)
                ·rw [if_pos c73] at H
                 have c73b0 := eq_true c73
                 have c73b1 : decide (ji8 ≤ (a0.size : Int)) = true := decide_eq_true c73
                 clear c73
                 simp only [Option.some.injEq, Prod.mk.injEq] at H
                 obtain ⟨rfl, rfl, rfl, rfl, rfl, rfl⟩ := H
                 try go_wp2
                 have n0_ := Aside0.mk (Kd.R_drew HO_237003.out)
                 have n1_ := Aside0.mk (blk_drew BK227.out)
                 have n2_ := Aside0.mk (blk_drew BK228.out)
                 have n3_ := Aside0.mk (blk_drew BK236.out)
                 have n4_ := Aside0.mk (below_drew1 HB.out)
                 clear HO_237003
                 clear BK227
                 clear BK228
                 clear BK236
                 clear HB
                 have HO_237003 := n0_
                 have BK227 := n1_
                 have BK228 := n2_
                 have BK236 := n3_
                 have HB := n4_
                 clear n0_ n1_ n2_ n3_ n4_
                 have p237 : 0 ≤ (0 : Int) := (by omega)
                 have q237 : 0 < (t232.length : Int) := of_decide_eq_true (by first | (with_reducible assumption) | assumption)
                 obtain ⟨ad237, A237_3, c237_3, e237, hx237_0, hx237_1, hx237_2, hx237_3, hl237_3, hi237_3⟩ := at_T58 (Kd.R_reads' HO_237003.out).2.2 0 p237 q237
                 cases e237
                 obtain ⟨ce237, hce237, hMe237, hcc237⟩ := Kd.R_get HO_237003.out z58 0 p237 (by first | exact q237 | exact of_decide_eq_true (by first | (with_reducible assumption) | assumption) | (have e_ := (Kd.R_reads' HO_237003.out).1; omega))
                 obtain ⟨ve237_3, rfl, ge237_3⟩ := k58_openM hMe237
                 have hv237_3 := hcc237 3 _ rfl
                 rw [add_field _ _ 3 (by omega)] at hv237_3
                 replace hv237_3 := Option.some.inj (hv237_3.symm.trans hx237_3)
                 rw [hv237_3] at ge237_3
                 have HL237_3 := Aside0.mk (show Kd.R k58 58 _ _ _ _ ((rd_T58 t232 0).f3) from ge237_3)
                 clear hv237_3 ge237_3
                 clear hcc237 hce237
                 have qi237 : (0 < t232.length) = True := eq_true (by omega)
                 (try rw [show ((0 : Int)).toNat = 0 from rfl] at hx237_0)
                 (try rw [show 0 * 4 = 0 from rfl] at hx237_0)
                 (try rw [Addr.add_zero'] at hx237_0)
                 (try rw [show ((0 : Int)).toNat = 0 from rfl] at hx237_1)
                 (try rw [show 0 * 4 = 0 from rfl] at hx237_1)
                 (try rw [Addr.add_zero'] at hx237_1)
                 (try rw [show ((0 : Int)).toNat = 0 from rfl] at hx237_2)
                 (try rw [show 0 * 4 = 0 from rfl] at hx237_2)
                 (try rw [Addr.add_zero'] at hx237_2)
                 (try rw [show ((0 : Int)).toNat = 0 from rfl] at hx237_3)
                 (try rw [show 0 * 4 = 0 from rfl] at hx237_3)
                 (try rw [Addr.add_zero'] at hx237_3)
                 have HR237_3 := Aside0.mk hi237_3
                 have HC237_3 := Aside0.mk hl237_3
                 clear hi237_3 hl237_3
                 replace p237 := eq_true p237
                 replace q237 := eq_true q237
                 have p238 : 0 ≤ (1 : Int) := (by omega)
                 have q238 : 1 < (t232.length : Int) := of_decide_eq_true (by first | (with_reducible assumption) | assumption)
                 obtain ⟨ad238, A238_3, c238_3, e238, hx238_0, hx238_1, hx238_2, hx238_3, hl238_3, hi238_3⟩ := at_T58 (Kd.R_reads' HO_237003.out).2.2 1 p238 q238
                 obtain rfl : ad237 = ad238 := (by injection e238)
                 obtain ⟨ce238, hce238, hMe238, hcc238⟩ := Kd.R_get HO_237003.out z58 1 p238 (by first | exact q238 | exact of_decide_eq_true (by first | (with_reducible assumption) | assumption) | (have e_ := (Kd.R_reads' HO_237003.out).1; omega))
                 obtain ⟨ve238_3, rfl, ge238_3⟩ := k58_openM hMe238
                 have hv238_3 := hcc238 3 _ rfl
                 rw [add_field _ _ 3 (by omega)] at hv238_3
                 replace hv238_3 := Option.some.inj (hv238_3.symm.trans hx238_3)
                 rw [hv238_3] at ge238_3
                 have HL238_3 := Aside0.mk (show Kd.R k58 58 _ _ _ _ ((rd_T58 t232 1).f3) from ge238_3)
                 clear hv238_3 ge238_3
                 clear hcc238 hce238
                 (try simp only [show (1 : Int).toNat = 1 from rfl, Nat.reduceMul, Nat.reduceEqDiff, Go.Addr.add, ↓reduceIte] at hx238_0 hx238_1 hx238_2 hx238_3)
                 have qi238 : (1 < t232.length) = True := eq_true (by omega)
                 (try rw [show ((1 : Int)).toNat = 1 from rfl] at hx238_0)
                 (try rw [show 1 * 4 = 4 from rfl] at hx238_0)
                 (try rw [show ((1 : Int)).toNat = 1 from rfl] at hx238_1)
                 (try rw [show 1 * 4 = 4 from rfl] at hx238_1)
                 (try rw [show ((1 : Int)).toNat = 1 from rfl] at hx238_2)
                 (try rw [show 1 * 4 = 4 from rfl] at hx238_2)
                 (try rw [show ((1 : Int)).toNat = 1 from rfl] at hx238_3)
                 (try rw [show 1 * 4 = 4 from rfl] at hx238_3)
                 have HR238_3 := Aside0.mk hi238_3
                 have HC238_3 := Aside0.mk hl238_3
                 clear hi238_3 hl238_3
                 replace p238 := eq_true p238
                 replace q238 := eq_true q238
                 have p239 : 0 ≤ (2 : Int) := (by omega)
                 have q239 : 2 < (t232.length : Int) := of_decide_eq_true (by first | (with_reducible assumption) | assumption)
                 obtain ⟨ad239, A239_3, c239_3, e239, hx239_0, hx239_1, hx239_2, hx239_3, hl239_3, hi239_3⟩ := at_T58 (Kd.R_reads' HO_237003.out).2.2 2 p239 q239
                 obtain rfl : ad237 = ad239 := (by injection e239)
                 obtain ⟨ce239, hce239, hMe239, hcc239⟩ := Kd.R_get HO_237003.out z58 2 p239 (by first | exact q239 | exact of_decide_eq_true (by first | (with_reducible assumption) | assumption) | (have e_ := (Kd.R_reads' HO_237003.out).1; omega))
                 obtain ⟨ve239_3, rfl, ge239_3⟩ := k58_openM hMe239
                 have hv239_3 := hcc239 3 _ rfl
                 rw [add_field _ _ 3 (by omega)] at hv239_3
                 replace hv239_3 := Option.some.inj (hv239_3.symm.trans hx239_3)
                 rw [hv239_3] at ge239_3
                 have HL239_3 := Aside0.mk (show Kd.R k58 58 _ _ _ _ ((rd_T58 t232 2).f3) from ge239_3)
                 clear hv239_3 ge239_3
                 clear hcc239 hce239
                 (try simp only [show (2 : Int).toNat = 2 from rfl, Nat.reduceMul, Nat.reduceEqDiff, Go.Addr.add, ↓reduceIte] at hx239_0 hx239_1 hx239_2 hx239_3)
                 have qi239 : (2 < t232.length) = True := eq_true (by omega)
                 (try rw [show ((2 : Int)).toNat = 2 from rfl] at hx239_0)
                 (try rw [show 2 * 4 = 8 from rfl] at hx239_0)
                 (try rw [show ((2 : Int)).toNat = 2 from rfl] at hx239_1)
                 (try rw [show 2 * 4 = 8 from rfl] at hx239_1)
                 (try rw [show ((2 : Int)).toNat = 2 from rfl] at hx239_2)
                 (try rw [show 2 * 4 = 8 from rfl] at hx239_2)
                 (try rw [show ((2 : Int)).toNat = 2 from rfl] at hx239_3)
                 (try rw [show 2 * 4 = 8 from rfl] at hx239_3)
                 have HR239_3 := Aside0.mk hi239_3
                 have HC239_3 := Aside0.mk hl239_3
                 clear hi239_3 hl239_3
                 replace p239 := eq_true p239
                 replace q239 := eq_true q239
                 have p240 : 0 ≤ (3 : Int) := (by omega)
                 have q240 : 3 < (t232.length : Int) := of_decide_eq_true (by first | (with_reducible assumption) | assumption)
                 obtain ⟨ad240, A240_3, c240_3, e240, hx240_0, hx240_1, hx240_2, hx240_3, hl240_3, hi240_3⟩ := at_T58 (Kd.R_reads' HO_237003.out).2.2 3 p240 q240
                 obtain rfl : ad237 = ad240 := (by injection e240)
                 obtain ⟨ce240, hce240, hMe240, hcc240⟩ := Kd.R_get HO_237003.out z58 3 p240 (by first | exact q240 | exact of_decide_eq_true (by first | (with_reducible assumption) | assumption) | (have e_ := (Kd.R_reads' HO_237003.out).1; omega))
                 obtain ⟨ve240_3, rfl, ge240_3⟩ := k58_openM hMe240
                 have hv240_3 := hcc240 3 _ rfl
                 rw [add_field _ _ 3 (by omega)] at hv240_3
                 replace hv240_3 := Option.some.inj (hv240_3.symm.trans hx240_3)
                 rw [hv240_3] at ge240_3
                 have HL240_3 := Aside0.mk (show Kd.R k58 58 _ _ _ _ ((rd_T58 t232 3).f3) from ge240_3)
                 clear hv240_3 ge240_3
                 clear hcc240 hce240
                 (try simp only [show (3 : Int).toNat = 3 from rfl, Nat.reduceMul, Nat.reduceEqDiff, Go.Addr.add, ↓reduceIte] at hx240_0 hx240_1 hx240_2 hx240_3)
                 have qi240 : (3 < t232.length) = True := eq_true (by omega)
                 (try rw [show ((3 : Int)).toNat = 3 from rfl] at hx240_0)
                 (try rw [show 3 * 4 = 12 from rfl] at hx240_0)
                 (try rw [show ((3 : Int)).toNat = 3 from rfl] at hx240_1)
                 (try rw [show 3 * 4 = 12 from rfl] at hx240_1)
                 (try rw [show ((3 : Int)).toNat = 3 from rfl] at hx240_2)
                 (try rw [show 3 * 4 = 12 from rfl] at hx240_2)
                 (try rw [show ((3 : Int)).toNat = 3 from rfl] at hx240_3)
                 (try rw [show 3 * 4 = 12 from rfl] at hx240_3)
                 have HR240_3 := Aside0.mk hi240_3
                 have HC240_3 := Aside0.mk hl240_3
                 clear hi240_3 hl240_3
                 replace p240 := eq_true p240
                 replace q240 := eq_true q240
                 refine start_ (n := 27) (S := fun w' => w'.cell? ⟨gb236, 0, none⟩ = some (.int .i64 t229) ∧ w'.cell? ⟨gb236, 1, none⟩ = some (.int .i64 t230) ∧ w'.cell? ⟨gb236, 2, none⟩ = some (.string t231) ∧ w'.cell? ⟨gb236, 3, none⟩ = some (.slice (some ad237) t232.length co23) ∧ w'.cell? ad237 = some (.int .i64 ((rd_T58 t232 0).f0)) ∧ w'.cell? ⟨ad237.block, ad237.off + 1, none⟩ = some (.int .i64 ((rd_T58 t232 0).f1)) ∧ w'.cell? ⟨ad237.block, ad237.off + 2, none⟩ = some (.string ((rd_T58 t232 0).f2)) ∧ w'.cell? ⟨ad237.block, ad237.off + 3, none⟩ = some (.slice A237_3 ((rd_T58 t232 0).f3).length c237_3) ∧ w'.cell? ⟨ad237.block, ad237.off + 4, none⟩ = some (.int .i64 ((rd_T58 t232 1).f0)) ∧ w'.cell? ⟨ad237.block, ad237.off + 4 + 1, none⟩ = some (.int .i64 ((rd_T58 t232 1).f1)) ∧ w'.cell? ⟨ad237.block, ad237.off + 4 + 2, none⟩ = some (.string ((rd_T58 t232 1).f2)) ∧ w'.cell? ⟨ad237.block, ad237.off + 4 + 3, none⟩ = some (.slice A238_3 ((rd_T58 t232 1).f3).length c238_3) ∧ w'.cell? ⟨ad237.block, ad237.off + 8, none⟩ = some (.int .i64 ((rd_T58 t232 2).f0)) ∧ w'.cell? ⟨ad237.block, ad237.off + 8 + 1, none⟩ = some (.int .i64 ((rd_T58 t232 2).f1)) ∧ w'.cell? ⟨ad237.block, ad237.off + 8 + 2, none⟩ = some (.string ((rd_T58 t232 2).f2)) ∧ w'.cell? ⟨ad237.block, ad237.off + 8 + 3, none⟩ = some (.slice A239_3 ((rd_T58 t232 2).f3).length c239_3) ∧ w'.cell? ⟨ad237.block, ad237.off + 12, none⟩ = some (.int .i64 ((rd_T58 t232 3).f0)) ∧ w'.cell? ⟨ad237.block, ad237.off + 12 + 1, none⟩ = some (.int .i64 ((rd_T58 t232 3).f1)) ∧ w'.cell? ⟨ad237.block, ad237.off + 12 + 2, none⟩ = some (.string ((rd_T58 t232 3).f2)) ∧ w'.cell? ⟨ad237.block, ad237.off + 12 + 3, none⟩ = some (.slice A240_3 ((rd_T58 t232 3).f3).length c240_3)) (ds := []) #[false, false, false, false, false, false, false, false, false, false, false, false, false, false, false, false, false, false, false, false, false, false, false, false, false, false, false] (by kernel_rfl) rfl rfl ⟨(blk_cell BK236.out 0).trans rfl, (blk_cell BK236.out 1).trans rfl, (blk_cell BK236.out 2).trans rfl, (blk_cell BK236.out 3).trans rfl, hx237_0, hx237_1, hx237_2, hx237_3, hx238_0, hx238_1, hx238_2, hx238_3, hx239_0, hx239_1, hx239_2, hx239_3, hx240_0, hx240_1, hx240_2, hx240_3⟩ (fun hHeld => ?_); refine with_tabW precinctref09_Parse.tab17 precinctref09_Parse.bits17 (fun HT_ HW_ => ?_)
                 generalize wr.drew = w74 at HO_237003 BK227 BK228 BK236 HB HL237_3 HL238_3 HL239_3 HL240_3 HR237_3 HR238_3 HR239_3 HR240_3 hx237_0 hx237_1 hx237_2 hx237_3 hx238_0 hx238_1 hx238_2 hx238_3 hx239_0 hx239_1 hx239_2 hx239_3 hx240_0 hx240_1 hx240_2 hx240_3 hHeld ⊢
                 refine pure_ (i := 0) (N := some 72) (v := ?_) (a' := ?_) #[true, false, false, false, false, false, false, false, false, false, false, false, false, false, false, false, false, false, false, false, false, false, false, false, false, false, false] rfl rfl (any_of HT_.out (by kernel_rfl)) (fun _ _ _ h => h) (Or.inl ⟨by rfl, ?_⟩) ?_ ?_
                 rotate_left
                 ·intro w'
                  go_simp
                  with_reducible rfl
                 rotate_left
                 ·simp only [Act.put, List.setIfInBounds_toArray, List.set_cons_zero, List.set_cons_succ, i64_w, i32_w]
                  rfl
                 refine pure_ (i := 5) (N := some 77) (v := ?_) (a' := ?_) #[true, false, false, false, false, true, false, false, false, false, false, false, false, false, false, false, false, false, false, false, false, false, false, false, false, false, false] rfl rfl (any_of HT_.out (by kernel_rfl)) (fun _ _ _ h => h) (Or.inl ⟨by rfl, ?_⟩) ?_ ?_
                 rotate_left
                 ·intro w'
                  go_simp
                  with_reducible rfl
                 rotate_left
                 ·simp only [Act.put, List.setIfInBounds_toArray, List.set_cons_zero, List.set_cons_succ, i64_w, i32_w]
                  rfl
                 refine pure_ (i := 10) (N := some 82) (v := ?_) (a' := ?_) #[true, false, false, false, false, true, false, false, false, false, true, false, false, false, false, false, false, false, false, false, false, false, false, false, false, false, false] rfl rfl (any_of HT_.out (by kernel_rfl)) (fun _ _ _ h => h) (Or.inl ⟨by rfl, ?_⟩) ?_ ?_
                 rotate_left
                 ·intro w'
                  go_simp
                  with_reducible rfl
                 rotate_left
                 ·simp only [Act.put, List.setIfInBounds_toArray, List.set_cons_zero, List.set_cons_succ, i64_w, i32_w]
                  rfl
                 refine pure_ (i := 15) (N := some 87) (v := ?_) (a' := ?_) #[true, false, false, false, false, true, false, false, false, false, true, false, false, false, false, true, false, false, false, false, false, false, false, false, false, false, false] rfl rfl (any_of HT_.out (by kernel_rfl)) (fun _ _ _ h => h) (Or.inl ⟨by rfl, ?_⟩) ?_ ?_
                 rotate_left
                 ·intro w'
                  go_simp
                  with_reducible rfl
                 rotate_left
                 ·simp only [Act.put, List.setIfInBounds_toArray, List.set_cons_zero, List.set_cons_succ, i64_w, i32_w]
                  rfl
                 refine pure_ (i := 21) (N := some 93) (v := ?_) (a' := ?_) #[true, false, false, false, false, true, false, false, false, false, true, false, false, false, false, true, false, false, false, false, false, true, false, false, false, false, false] rfl rfl (any_of HT_.out (by kernel_rfl)) (fun _ _ _ h => h) (Or.inl ⟨by rfl, ?_⟩) ?_ ?_
                 rotate_left
                 ·intro w'
                  go_simp
                  with_reducible rfl
                 rotate_left
                 ·simp only [Act.put, List.setIfInBounds_toArray, List.set_cons_zero, List.set_cons_succ, i64_w, i32_w]
                  rfl
                 refine pure_ (i := 22) (N := some 94) (v := ?_) (a' := ?_) #[true, false, false, false, false, true, false, false, false, false, true, false, false, false, false, true, false, false, false, false, false, true, true, false, false, false, false] rfl rfl (any_of HT_.out (by kernel_rfl)) (fun _ _ _ h => h) (Or.inl ⟨by rfl, ?_⟩) ?_ ?_
                 rotate_left
                 ·intro w'
                  go_simp
                  with_reducible rfl
                 rotate_left
                 ·simp only [Act.put, List.setIfInBounds_toArray, List.set_cons_zero, List.set_cons_succ, i64_w, i32_w]
                  rfl
                 refine pure_ (i := 23) (N := some 95) (v := ?_) (a' := ?_) #[true, false, false, false, false, true, false, false, false, false, true, false, false, false, false, true, false, false, false, false, false, true, true, true, false, false, false] rfl rfl (any_of HT_.out (by kernel_rfl)) (fun _ _ _ h => h) (Or.inl ⟨by rfl, ?_⟩) ?_ ?_
                 rotate_left
                 ·intro w'
                  go_simp
                  with_reducible rfl
                 rotate_left
                 ·simp only [Act.put, List.setIfInBounds_toArray, List.set_cons_zero, List.set_cons_succ, i64_w, i32_w]
                  rfl
                 refine take_ (i := 1) (N := some 73) (v := ?_) (a' := ?_) #[true, true, false, false, false, true, false, false, false, false, true, false, false, false, false, true, false, false, false, false, false, true, true, true, false, false, false] rfl rfl (take_ofW HT_.out HW_.out (by kernel_rfl)) (fun _ _ _ h => h) (Or.inl ⟨by rfl, ?_⟩) hHeld ?_ ?_
                 rotate_left
                 ·rintro w' ⟨s0, s1, s2, s3, s4, s5, s6, s7, s8, s9, s10, s11, s12, s13, s14, s15, s16, s17, s18, s19⟩
                  go_simp
                  with_reducible rfl
                 rotate_left
                 ·simp only [Act.put, List.setIfInBounds_toArray, List.set_cons_zero, List.set_cons_succ, i64_w, i32_w]
                  rfl
                 refine pure_ (i := 2) (N := some 74) (v := ?_) (a' := ?_) #[true, true, true, false, false, true, false, false, false, false, true, false, false, false, false, true, false, false, false, false, false, true, true, true, false, false, false] rfl rfl (any_of HT_.out (by kernel_rfl)) (fun _ _ _ h => h) (Or.inl ⟨by rfl, ?_⟩) ?_ ?_
                 rotate_left
                 ·intro w'
                  go_simp
                  with_reducible rfl
                 rotate_left
                 ·simp only [Act.put, List.setIfInBounds_toArray, List.set_cons_zero, List.set_cons_succ, i64_w, i32_w]
                  rfl
                 refine pure_ (i := 3) (N := some 75) (v := ?_) (a' := ?_) #[true, true, true, true, false, true, false, false, false, false, true, false, false, false, false, true, false, false, false, false, false, true, true, true, false, false, false] rfl rfl (any_of HT_.out (by kernel_rfl)) (fun _ _ _ h => h) (Or.inl ⟨by rfl, ?_⟩) ?_ ?_
                 rotate_left
                 ·intro w'
                  go_simp
                  with_reducible rfl
                 rotate_left
                 ·simp only [Act.put, List.setIfInBounds_toArray, List.set_cons_zero, List.set_cons_succ, i64_w, i32_w]
                  rfl
                 refine take_ (i := 4) (N := some 76) (v := ?_) (a' := ?_) #[true, true, true, true, true, true, false, false, false, false, true, false, false, false, false, true, false, false, false, false, false, true, true, true, false, false, false] rfl rfl (take_ofW HT_.out HW_.out (by kernel_rfl)) (fun _ _ _ h => h) (Or.inl ⟨by rfl, ?_⟩) hHeld ?_ ?_
                 rotate_left
                 ·rintro w' ⟨s0, s1, s2, s3, s4, s5, s6, s7, s8, s9, s10, s11, s12, s13, s14, s15, s16, s17, s18, s19⟩
                  go_simp
                  with_reducible rfl
                 rotate_left
                 ·simp only [Act.put, List.setIfInBounds_toArray, List.set_cons_zero, List.set_cons_succ, i64_w, i32_w]
                  rfl
                 refine take_ (i := 6) (N := some 78) (v := ?_) (a' := ?_) #[true, true, true, true, true, true, true, false, false, false, true, false, false, false, false, true, false, false, false, false, false, true, true, true, false, false, false] rfl rfl (take_ofW HT_.out HW_.out (by kernel_rfl)) (fun _ _ _ h => h) (Or.inl ⟨by rfl, ?_⟩) hHeld ?_ ?_
                 rotate_left
                 ·rintro w' ⟨s0, s1, s2, s3, s4, s5, s6, s7, s8, s9, s10, s11, s12, s13, s14, s15, s16, s17, s18, s19⟩
                  go_simp
                  with_reducible rfl
                 rotate_left
                 ·simp only [Act.put, List.setIfInBounds_toArray, List.set_cons_zero, List.set_cons_succ, i64_w, i32_w]
                  rfl
                 refine pure_ (i := 7) (N := some 79) (v := ?_) (a' := ?_) #[true, true, true, true, true, true, true, true, false, false, true, false, false, false, false, true, false, false, false, false, false, true, true, true, false, false, false] rfl rfl (any_of HT_.out (by kernel_rfl)) (fun _ _ _ h => h) (Or.inl ⟨by rfl, ?_⟩) ?_ ?_
                 rotate_left
                 ·intro w'
                  go_simp
                  with_reducible rfl
                 rotate_left
                 ·simp only [Act.put, List.setIfInBounds_toArray, List.set_cons_zero, List.set_cons_succ, i64_w, i32_w]
                  rfl
                 refine pure_ (i := 8) (N := some 80) (v := ?_) (a' := ?_) #[true, true, true, true, true, true, true, true, true, false, true, false, false, false, false, true, false, false, false, false, false, true, true, true, false, false, false] rfl rfl (any_of HT_.out (by kernel_rfl)) (fun _ _ _ h => h) (Or.inl ⟨by rfl, ?_⟩) ?_ ?_
                 rotate_left
                 ·intro w'
                  go_simp
                  with_reducible rfl
                 rotate_left
                 ·simp only [Act.put, List.setIfInBounds_toArray, List.set_cons_zero, List.set_cons_succ, i64_w, i32_w]
                  rfl
                 refine take_ (i := 9) (N := some 81) (v := ?_) (a' := ?_) #[true, true, true, true, true, true, true, true, true, true, true, false, false, false, false, true, false, false, false, false, false, true, true, true, false, false, false] rfl rfl (take_ofW HT_.out HW_.out (by kernel_rfl)) (fun _ _ _ h => h) (Or.inl ⟨by rfl, ?_⟩) hHeld ?_ ?_
                 rotate_left
                 ·rintro w' ⟨s0, s1, s2, s3, s4, s5, s6, s7, s8, s9, s10, s11, s12, s13, s14, s15, s16, s17, s18, s19⟩
                  go_simp
                  with_reducible rfl
                 rotate_left
                 ·simp only [Act.put, List.setIfInBounds_toArray, List.set_cons_zero, List.set_cons_succ, i64_w, i32_w]
                  rfl
                 refine take_ (i := 11) (N := some 83) (v := ?_) (a' := ?_) #[true, true, true, true, true, true, true, true, true, true, true, true, false, false, false, true, false, false, false, false, false, true, true, true, false, false, false] rfl rfl (take_ofW HT_.out HW_.out (by kernel_rfl)) (fun _ _ _ h => h) (Or.inl ⟨by rfl, ?_⟩) hHeld ?_ ?_
                 rotate_left
                 ·rintro w' ⟨s0, s1, s2, s3, s4, s5, s6, s7, s8, s9, s10, s11, s12, s13, s14, s15, s16, s17, s18, s19⟩
                  go_simp
                  with_reducible rfl
                 rotate_left
                 ·simp only [Act.put, List.setIfInBounds_toArray, List.set_cons_zero, List.set_cons_succ, i64_w, i32_w]
                  rfl
                 refine pure_ (i := 12) (N := some 84) (v := ?_) (a' := ?_) #[true, true, true, true, true, true, true, true, true, true, true, true, true, false, false, true, false, false, false, false, false, true, true, true, false, false, false] rfl rfl (any_of HT_.out (by kernel_rfl)) (fun _ _ _ h => h) (Or.inl ⟨by rfl, ?_⟩) ?_ ?_
                 rotate_left
                 ·intro w'
                  go_simp
                  with_reducible rfl
                 rotate_left
                 ·simp only [Act.put, List.setIfInBounds_toArray, List.set_cons_zero, List.set_cons_succ, i64_w, i32_w]
                  rfl
                 refine pure_ (i := 13) (N := some 85) (v := ?_) (a' := ?_) #[true, true, true, true, true, true, true, true, true, true, true, true, true, true, false, true, false, false, false, false, false, true, true, true, false, false, false] rfl rfl (any_of HT_.out (by kernel_rfl)) (fun _ _ _ h => h) (Or.inl ⟨by rfl, ?_⟩) ?_ ?_
                 rotate_left
                 ·intro w'
                  go_simp
                  with_reducible rfl
                 rotate_left
                 ·simp only [Act.put, List.setIfInBounds_toArray, List.set_cons_zero, List.set_cons_succ, i64_w, i32_w]
                  rfl
                 refine take_ (i := 14) (N := some 86) (v := ?_) (a' := ?_) #[true, true, true, true, true, true, true, true, true, true, true, true, true, true, true, true, false, false, false, false, false, true, true, true, false, false, false] rfl rfl (take_ofW HT_.out HW_.out (by kernel_rfl)) (fun _ _ _ h => h) (Or.inl ⟨by rfl, ?_⟩) hHeld ?_ ?_
                 rotate_left
                 ·rintro w' ⟨s0, s1, s2, s3, s4, s5, s6, s7, s8, s9, s10, s11, s12, s13, s14, s15, s16, s17, s18, s19⟩
                  go_simp
                  with_reducible rfl
                 rotate_left
                 ·simp only [Act.put, List.setIfInBounds_toArray, List.set_cons_zero, List.set_cons_succ, i64_w, i32_w]
                  rfl
                 refine take_ (i := 16) (N := some 88) (v := ?_) (a' := ?_) #[true, true, true, true, true, true, true, true, true, true, true, true, true, true, true, true, true, false, false, false, false, true, true, true, false, false, false] rfl rfl (take_ofW HT_.out HW_.out (by kernel_rfl)) (fun _ _ _ h => h) (Or.inl ⟨by rfl, ?_⟩) hHeld ?_ ?_
                 rotate_left
                 ·rintro w' ⟨s0, s1, s2, s3, s4, s5, s6, s7, s8, s9, s10, s11, s12, s13, s14, s15, s16, s17, s18, s19⟩
                  go_simp
                  with_reducible rfl
                 rotate_left
                 ·simp only [Act.put, List.setIfInBounds_toArray, List.set_cons_zero, List.set_cons_succ, i64_w, i32_w]
                  rfl
                 refine pure_ (i := 17) (N := some 89) (v := ?_) (a' := ?_) #[true, true, true, true, true, true, true, true, true, true, true, true, true, true, true, true, true, true, false, false, false, true, true, true, false, false, false] rfl rfl (any_of HT_.out (by kernel_rfl)) (fun _ _ _ h => h) (Or.inl ⟨by rfl, ?_⟩) ?_ ?_
                 rotate_left
                 ·intro w'
                  go_simp
                  with_reducible rfl
                 rotate_left
                 ·simp only [Act.put, List.setIfInBounds_toArray, List.set_cons_zero, List.set_cons_succ, i64_w, i32_w]
                  rfl
                 refine pure_ (i := 18) (N := some 90) (v := ?_) (a' := ?_) #[true, true, true, true, true, true, true, true, true, true, true, true, true, true, true, true, true, true, true, false, false, true, true, true, false, false, false] rfl rfl (any_of HT_.out (by kernel_rfl)) (fun _ _ _ h => h) (Or.inl ⟨by rfl, ?_⟩) ?_ ?_
                 rotate_left
                 ·intro w'
                  go_simp
                  with_reducible rfl
                 rotate_left
                 ·simp only [Act.put, List.setIfInBounds_toArray, List.set_cons_zero, List.set_cons_succ, i64_w, i32_w]
                  rfl
                 refine take_ (i := 19) (N := some 91) (v := ?_) (a' := ?_) #[true, true, true, true, true, true, true, true, true, true, true, true, true, true, true, true, true, true, true, true, false, true, true, true, false, false, false] rfl rfl (take_ofW HT_.out HW_.out (by kernel_rfl)) (fun _ _ _ h => h) (Or.inl ⟨by rfl, ?_⟩) hHeld ?_ ?_
                 rotate_left
                 ·rintro w' ⟨s0, s1, s2, s3, s4, s5, s6, s7, s8, s9, s10, s11, s12, s13, s14, s15, s16, s17, s18, s19⟩
                  go_simp
                  with_reducible rfl
                 rotate_left
                 ·simp only [Act.put, List.setIfInBounds_toArray, List.set_cons_zero, List.set_cons_succ, i64_w, i32_w]
                  rfl
                 refine pure_ (i := 20) (N := some 92) (v := ?_) (a' := ?_) #[true, true, true, true, true, true, true, true, true, true, true, true, true, true, true, true, true, true, true, true, true, true, true, true, false, false, false] rfl rfl (any_of HT_.out (by kernel_rfl)) (fun _ _ _ h => h) (Or.inl ⟨by rfl, ?_⟩) ?_ ?_
                 rotate_left
                 ·intro w'
                  go_simp
                  with_reducible rfl
                 rotate_left
                 ·simp only [Act.put, List.setIfInBounds_toArray, List.set_cons_zero, List.set_cons_succ, i64_w, i32_w]
                  rfl
                 refine one_ (i := 24) (N := none) #[true, true, true, true, true, true, true, true, true, true, true, true, true, true, true, true, true, true, true, true, true, true, true, true, true, false, false] rfl rfl (one_of HT_.out (by kernel_rfl)) (by decide) (fun K hK => ?_)
                 have hs75 : w74.cell? ⟨gb227, 0, none⟩ = some (.int .i64 x228000_2) := (blk_cell BK227.out 0).trans rfl
                 have hfs75 := blk_frozen BK227.out 0
                 have hns75_1 := NB228_227.out
                 have hns75_2 := NB236_227.out
                 have hms75_1 := NB227_228.out
                 have hms75_2 := NB227_236.out
                 have hs76 : w74.cell? ⟨gb227, 1, none⟩ = some (.int .i64 x228001_2) := (blk_cell BK227.out 1).trans rfl
                 have hfs76 := blk_frozen BK227.out 1
                 have hns76_1 := NB228_227.out
                 have hns76_2 := NB236_227.out
                 have hms76_1 := NB227_228.out
                 have hms76_2 := NB227_236.out
                 have hs77 : w74.cell? ⟨gb227, 2, none⟩ = some (.int .i64 x228002_2) := (blk_cell BK227.out 2).trans rfl
                 have hfs77 := blk_frozen BK227.out 2
                 have hns77_1 := NB228_227.out
                 have hns77_2 := NB236_227.out
                 have hms77_1 := NB227_228.out
                 have hms77_2 := NB227_236.out
                 have hs78 : w74.cell? ⟨gb227, 3, none⟩ = some (.int .i64 x228003_2) := (blk_cell BK227.out 3).trans rfl
                 have hfs78 := blk_frozen BK227.out 3
                 have hns78_1 := NB228_227.out
                 have hns78_2 := NB236_227.out
                 have hms78_1 := NB227_228.out
                 have hms78_2 := NB227_236.out
                 refine skip_ (w1 := ?_) (by rfl) rfl ?_ ?_
                 rotate_left
                 ·go_simp
                  rfl
                 have nx_0 := Kd.own_blk (Kd.R_ne HO_237003.out BK227.out (by decide))
                 refine hK.out _ _ ⟨((cell_far (p := ⟨gb227, _, none⟩) NB236_227.out _).trans (((cell_far (p := ⟨gb227, _, none⟩) NB236_227.out _).trans (((cell_far (p := ⟨gb227, _, none⟩) NB236_227.out _).trans (((cell_far (p := ⟨gb227, _, none⟩) NB236_227.out _).trans (hHeld.1)))))))), ((cell_far (p := ⟨gb227, _, none⟩) NB236_227.out _).trans (((cell_far (p := ⟨gb227, _, none⟩) NB236_227.out _).trans (((cell_far (p := ⟨gb227, _, none⟩) NB236_227.out _).trans (((cell_far (p := ⟨gb227, _, none⟩) NB236_227.out _).trans (hHeld.2.1)))))))), ((cell_far (p := ⟨gb227, _, none⟩) NB236_227.out _).trans (((cell_far (p := ⟨gb227, _, none⟩) NB236_227.out _).trans (((cell_far (p := ⟨gb227, _, none⟩) NB236_227.out _).trans (((cell_far (p := ⟨gb227, _, none⟩) NB236_227.out _).trans (hHeld.2.2.1)))))))), ((cell_far (p := ⟨gb227, _, none⟩) NB236_227.out _).trans (((cell_far (p := ⟨gb227, _, none⟩) NB236_227.out _).trans (((cell_far (p := ⟨gb227, _, none⟩) NB236_227.out _).trans (((cell_far (p := ⟨gb227, _, none⟩) NB236_227.out _).trans (hHeld.2.2.2.1)))))))), ((cell_far (p := ⟨gb227, _, none⟩) (by exact nx_0) _).trans (((cell_far (p := ⟨gb227, _, none⟩) (by exact nx_0) _).trans (((cell_far (p := ⟨gb227, _, none⟩) (by exact nx_0) _).trans (((cell_far (p := ⟨gb227, _, none⟩) (by exact nx_0) _).trans (hHeld.2.2.2.2.1)))))))), ((cell_far (p := ⟨gb227, _, none⟩) (by exact nx_0) _).trans (((cell_far (p := ⟨gb227, _, none⟩) (by exact nx_0) _).trans (((cell_far (p := ⟨gb227, _, none⟩) (by exact nx_0) _).trans (((cell_far (p := ⟨gb227, _, none⟩) (by exact nx_0) _).trans (hHeld.2.2.2.2.2.1)))))))), ((cell_far (p := ⟨gb227, _, none⟩) (by exact nx_0) _).trans (((cell_far (p := ⟨gb227, _, none⟩) (by exact nx_0) _).trans (((cell_far (p := ⟨gb227, _, none⟩) (by exact nx_0) _).trans (((cell_far (p := ⟨gb227, _, none⟩) (by exact nx_0) _).trans (hHeld.2.2.2.2.2.2.1)))))))), ((cell_far (p := ⟨gb227, _, none⟩) (by exact nx_0) _).trans (((cell_far (p := ⟨gb227, _, none⟩) (by exact nx_0) _).trans (((cell_far (p := ⟨gb227, _, none⟩) (by exact nx_0) _).trans (((cell_far (p := ⟨gb227, _, none⟩) (by exact nx_0) _).trans (hHeld.2.2.2.2.2.2.2.1)))))))), ((cell_far (p := ⟨gb227, _, none⟩) (by exact nx_0) _).trans (((cell_far (p := ⟨gb227, _, none⟩) (by exact nx_0) _).trans (((cell_far (p := ⟨gb227, _, none⟩) (by exact nx_0) _).trans (((cell_far (p := ⟨gb227, _, none⟩) (by exact nx_0) _).trans (hHeld.2.2.2.2.2.2.2.2.1)))))))), ((cell_far (p := ⟨gb227, _, none⟩) (by exact nx_0) _).trans (((cell_far (p := ⟨gb227, _, none⟩) (by exact nx_0) _).trans (((cell_far (p := ⟨gb227, _, none⟩) (by exact nx_0) _).trans (((cell_far (p := ⟨gb227, _, none⟩) (by exact nx_0) _).trans (hHeld.2.2.2.2.2.2.2.2.2.1)))))))), ((cell_far (p := ⟨gb227, _, none⟩) (by exact nx_0) _).trans (((cell_far (p := ⟨gb227, _, none⟩) (by exact nx_0) _).trans (((cell_far (p := ⟨gb227, _, none⟩) (by exact nx_0) _).trans (((cell_far (p := ⟨gb227, _, none⟩) (by exact nx_0) _).trans (hHeld.2.2.2.2.2.2.2.2.2.2.1)))))))), ((cell_far (p := ⟨gb227, _, none⟩) (by exact nx_0) _).trans (((cell_far (p := ⟨gb227, _, none⟩) (by exact nx_0) _).trans (((cell_far (p := ⟨gb227, _, none⟩) (by exact nx_0) _).trans (((cell_far (p := ⟨gb227, _, none⟩) (by exact nx_0) _).trans (hHeld.2.2.2.2.2.2.2.2.2.2.2.1)))))))), ((cell_far (p := ⟨gb227, _, none⟩) (by exact nx_0) _).trans (((cell_far (p := ⟨gb227, _, none⟩) (by exact nx_0) _).trans (((cell_far (p := ⟨gb227, _, none⟩) (by exact nx_0) _).trans (((cell_far (p := ⟨gb227, _, none⟩) (by exact nx_0) _).trans (hHeld.2.2.2.2.2.2.2.2.2.2.2.2.1)))))))), ((cell_far (p := ⟨gb227, _, none⟩) (by exact nx_0) _).trans (((cell_far (p := ⟨gb227, _, none⟩) (by exact nx_0) _).trans (((cell_far (p := ⟨gb227, _, none⟩) (by exact nx_0) _).trans (((cell_far (p := ⟨gb227, _, none⟩) (by exact nx_0) _).trans (hHeld.2.2.2.2.2.2.2.2.2.2.2.2.2.1)))))))), ((cell_far (p := ⟨gb227, _, none⟩) (by exact nx_0) _).trans (((cell_far (p := ⟨gb227, _, none⟩) (by exact nx_0) _).trans (((cell_far (p := ⟨gb227, _, none⟩) (by exact nx_0) _).trans (((cell_far (p := ⟨gb227, _, none⟩) (by exact nx_0) _).trans (hHeld.2.2.2.2.2.2.2.2.2.2.2.2.2.2.1)))))))), ((cell_far (p := ⟨gb227, _, none⟩) (by exact nx_0) _).trans (((cell_far (p := ⟨gb227, _, none⟩) (by exact nx_0) _).trans (((cell_far (p := ⟨gb227, _, none⟩) (by exact nx_0) _).trans (((cell_far (p := ⟨gb227, _, none⟩) (by exact nx_0) _).trans (hHeld.2.2.2.2.2.2.2.2.2.2.2.2.2.2.2.1)))))))), ((cell_far (p := ⟨gb227, _, none⟩) (by exact nx_0) _).trans (((cell_far (p := ⟨gb227, _, none⟩) (by exact nx_0) _).trans (((cell_far (p := ⟨gb227, _, none⟩) (by exact nx_0) _).trans (((cell_far (p := ⟨gb227, _, none⟩) (by exact nx_0) _).trans (hHeld.2.2.2.2.2.2.2.2.2.2.2.2.2.2.2.2.1)))))))), ((cell_far (p := ⟨gb227, _, none⟩) (by exact nx_0) _).trans (((cell_far (p := ⟨gb227, _, none⟩) (by exact nx_0) _).trans (((cell_far (p := ⟨gb227, _, none⟩) (by exact nx_0) _).trans (((cell_far (p := ⟨gb227, _, none⟩) (by exact nx_0) _).trans (hHeld.2.2.2.2.2.2.2.2.2.2.2.2.2.2.2.2.2.1)))))))), ((cell_far (p := ⟨gb227, _, none⟩) (by exact nx_0) _).trans (((cell_far (p := ⟨gb227, _, none⟩) (by exact nx_0) _).trans (((cell_far (p := ⟨gb227, _, none⟩) (by exact nx_0) _).trans (((cell_far (p := ⟨gb227, _, none⟩) (by exact nx_0) _).trans (hHeld.2.2.2.2.2.2.2.2.2.2.2.2.2.2.2.2.2.2.1)))))))), ((cell_far (p := ⟨gb227, _, none⟩) (by exact nx_0) _).trans (((cell_far (p := ⟨gb227, _, none⟩) (by exact nx_0) _).trans (((cell_far (p := ⟨gb227, _, none⟩) (by exact nx_0) _).trans (((cell_far (p := ⟨gb227, _, none⟩) (by exact nx_0) _).trans (hHeld.2.2.2.2.2.2.2.2.2.2.2.2.2.2.2.2.2.2.2))))))))⟩ (fun hHeld => ?_)
                 clear hK K
                 refine pure_ (i := 25) (N := some 3) (v := ?_) (a' := ?_) #[true, true, true, true, true, true, true, true, true, true, true, true, true, true, true, true, true, true, true, true, true, true, true, true, true, true, false] rfl rfl (any_of HT_.out (by kernel_rfl)) (fun _ _ _ h => h) (Or.inl ⟨by rfl, ?_⟩) ?_ ?_
                 rotate_left
                 ·intro w'
                  go_simp
                  with_reducible rfl
                 rotate_left
                 ·simp only [Act.put, List.setIfInBounds_toArray, List.set_cons_zero, List.set_cons_succ, i64_w, i32_w]
                  rfl
                 refine pure_ (i := 26) (N := some 4) (v := ?_) (a' := ?_) #[true, true, true, true, true, true, true, true, true, true, true, true, true, true, true, true, true, true, true, true, true, true, true, true, true, true, true] rfl rfl (any_of HT_.out (by kernel_rfl)) (fun _ _ _ h => h) (Or.inl ⟨by rfl, ?_⟩) ?_ ?_
                 rotate_left
                 ·intro w'
                  go_simp
                  with_reducible rfl
                 rotate_left
                 ·simp only [Act.put, List.setIfInBounds_toArray, List.set_cons_zero, List.set_cons_succ, i64_w, i32_w]
                  rfl
                 refine done_ (done_of HT_.out (by kernel_rfl)) ?_
                 try go_wp2
                 refine bodyPost_ret (results_ctt rfl _ _ gb227 27 #[.int .i64 ((rd_T58 t232 0).f1), .int .i64 ((rd_T58 t232 1).f1), .int .i64 ((rd_T58 t232 2).f1), .int .i64 ((rd_T58 t232 3).f1)] (0, 0) _ rfl (rb (blk_put (cs := #[.int .i64 ((rd_T58 t232 0).f1), .int .i64 ((rd_T58 t232 1).f1), .int .i64 ((rd_T58 t232 2).f1), .int .i64 x228003_2]) (rb (blk_put (cs := #[.int .i64 ((rd_T58 t232 0).f1), .int .i64 ((rd_T58 t232 1).f1), .int .i64 x228002_2, .int .i64 x228003_2]) (rb (blk_put (cs := #[.int .i64 ((rd_T58 t232 0).f1), .int .i64 x228001_2, .int .i64 x228002_2, .int .i64 x228003_2]) (rb (blk_put (cs := #[.int .i64 x228000_2, .int .i64 x228001_2, .int .i64 x228002_2, .int .i64 x228003_2]) (rb BK227.out) 0 _ rfl)) 1 _ rfl)) 2 _ rfl)) 3 _ rfl)) Tryd.underlying27 rfl (by kernel_rfl)) rfl ?_
                 exact ⟨by first | rfl | (simp [errW_none, errW_some] <;> rfl) | (simp only [← hji8]; first | rfl | (simp [errW_none, errW_some] <;> rfl)) | (simp [*, errW_none, errW_some] <;> rfl), bb⟩
                ·rw [if_neg c73] at H
                 exact absurd H (by simp)
               ·rw [if_neg c72] at H
                exact absurd H (by simp)
              ·rw [if_neg c71] at H
               exact absurd H (by simp)
             ·rw [if_neg c70] at H
              exact absurd H (by simp)
            ·rw [if_neg c69] at H
             exact absurd H (by simp)
           ·rw [if_neg c68] at H
            exact absurd H (by simp)
    ·rw [if_neg c12] at H
     have c12b0 : (t235 == 0) = false := beq_eq_false_iff_ne.mpr c12
     have c12b1 : (t235 != 0) = true := bne_iff_ne.mpr c12
     simp only [Option.some.injEq, Prod.mk.injEq] at H
     obtain ⟨rfl, rfl, rfl, rfl, rfl, rfl⟩ := H
     go_enter Tryd.func10, Tryd.ntmps10
     go_wp2_with (first | ((with_reducible refine gate_dst (N := 2) rfl ?_); (try (refine gate_guard (by rfl) ?_; dsimp only)); refine box_event ?hg (N := 2) ?hd (cs := #[.int .i64 0, .int .i64 0, .int .i64 0, .int .i64 0]) (t := 27) ?hr ?_; (case hd => rfl); (case hg => rfl); (case hr => first | (go_simp; done) | (go_simp; rfl)); intro gb227 hg w79 hbox hb; have n0_ := Aside0.mk (below_step bb hb); have n1_ := Aside0.mk (hbox); have n2_ := Aside0.mk ((by rw [hg]; exact (below_size bb) : w.heap.size ≤ gb227)); have n3_ := Aside0.mk ((by rw [hg]; exact (below_size bb) : w.heap.size ≤ gb227)); clear HB; have HB := n0_; have BK227 := n1_; have GW227 := n2_; have GE227 := n3_; clear n0_ n1_ n2_ n3_; clear hb hbox hg) | ((with_reducible refine gate_dst (N := 5) rfl ?_); (try (refine gate_guard (by rfl) ?_; dsimp only)); refine box_event ?hg (N := 5) ?hd (cs := #[.int .i64 0, .int .i64 0, .int .i64 0, .int .i64 0]) (t := 27) ?hr ?_; (case hd => rfl); (case hg => rfl); (case hr => first | (go_simp; done) | (go_simp; rfl)); intro gb228 hg w80 hbox hb; have n0_ := Aside0.mk (blk_below (rb BK227.out) hb); have n1_ := Aside0.mk (below_step bb hb); have n2_ := Aside0.mk (hbox); have n3_ := Aside0.mk ((by rw [hg]; exact (below_size bb) : w.heap.size ≤ gb228)); have n4_ := Aside0.mk ((by rw [hg]; exact (below_size bb) : w.heap.size ≤ gb228)); have n5_ := Aside0.mk ((by rw [hg]; exact Nat.ne_of_lt (blk_lt (rb BK227.out)) : gb227 ≠ gb228)); have n6_ := Aside0.mk ((by rw [hg]; exact Nat.ne_of_gt (blk_lt (rb BK227.out)) : gb228 ≠ gb227)); clear BK227; clear HB; have BK227 := n0_; have HB := n1_; have BK228 := n2_; have GW228 := n3_; have GE228 := n4_; have NB227_228 := n5_; have NB228_227 := n6_; clear n0_ n1_ n2_ n3_ n4_ n5_ n6_; clear hb hbox hg; have hnb81 := NB228_227.out; have hnc81 := NB227_228.out; have hcz82_0 : w80.cell? ⟨gb228, 0, none⟩ = some (.int .i64 0) := (blk_cell BK228.out 0).trans rfl; have hcz82_1 : w80.cell? ⟨gb228, 1, none⟩ = some (.int .i64 0) := (blk_cell BK228.out 1).trans rfl; have hcz82_2 : w80.cell? ⟨gb228, 2, none⟩ = some (.int .i64 0) := (blk_cell BK228.out 2).trans rfl; have hcz82_3 : w80.cell? ⟨gb228, 3, none⟩ = some (.int .i64 0) := (blk_cell BK228.out 3).trans rfl; have hfz82_0 := blk_frozen BK228.out 0; have hfz82_1 := blk_frozen BK228.out 1; have hfz82_2 := blk_frozen BK228.out 2; have hfz82_3 := blk_frozen BK228.out 3) | ((with_reducible refine gate_callee (f := 22) rfl ?_); refine goesL_ (some 22) rfl rfl Tryd.func22 (by kernel_rfl) rfl #[.string (a0.extract 0 ((ji8) : Int).toNat)] rfl (by (try simp only [List.map_toArray, List.map_cons, List.map_nil]); first | done | (simp only [hji8]; rfl) | rfl | (simp only [List.length_drop, List.length_take]; rfl)) ?_; (with_reducible refine (precinctref02_Get.calls k (a0.extract 0 ((ji8) : Int).toNat) t229 t230 t231 t232 t235 _ A11.out).mono ?_); rintro e w83 ⟨v233, rfl, ho0, hb⟩; refine ⟨_, rfl, ?_⟩; have n0_ := Aside0.mk (Kd.R_lower ho0 (below_size bb)); have n1_ := Aside0.mk (blk_below (rb (blk_far (rb (blk_far (rb (blk_far (rb (blk_far (rb BK227.out) NB227_228.out _)) NB227_228.out _)) NB227_228.out _)) NB227_228.out _)) hb); have n2_ := Aside0.mk (blk_below (rb (blk_put (cs := #[.int .i64 0, .int .i64 0, .int .i64 0, .int .i64 0]) (rb (blk_put (cs := #[.int .i64 0, .int .i64 0, .int .i64 0, .int .i64 0]) (rb (blk_put (cs := #[.int .i64 0, .int .i64 0, .int .i64 0, .int .i64 0]) (rb (blk_put (cs := #[.int .i64 0, .int .i64 0, .int .i64 0, .int .i64 0]) (rb BK228.out) 0 _ rfl)) 1 _ rfl)) 2 _ rfl)) 3 _ rfl)) hb); have n3_ := Aside0.mk (below_step bb hb); clear BK227; clear BK228; clear HB; have HO234 := n0_; have BK227 := n1_; have BK228 := n2_; have HB := n3_; clear n0_ n1_ n2_ n3_; (try clear hb); (try clear hb2); (try clear hk); (try clear hi); (try clear ho0)) | ((with_reducible refine gate_dst (N := 7) rfl ?_); (try (refine gate_guard (by rfl) ?_; dsimp only)); refine box_event ?hg (N := 7) ?hd (cs := #[.int .i64 0, .int .i64 0, .string (⟨#[]⟩ : ByteArray), .slice none 0 0]) (t := 58) ?hr ?_; (case hd => rfl); (case hg => rfl); (case hr => first | (go_simp; done) | (go_simp; rfl)); intro gb236 hg w84 hbox hb; have n0_ := Aside0.mk (Kd.R_below (Kd.R_elderB (kR HO234.out) gb236 (Nat.le_of_eq hg.symm)) hb); have n1_ := Aside0.mk (blk_below (rb BK227.out) hb); have n2_ := Aside0.mk (blk_below (rb BK228.out) hb); have n3_ := Aside0.mk (below_step bb hb); have n4_ := Aside0.mk (hbox); have n5_ := Aside0.mk ((by rw [hg]; exact (below_size bb) : w.heap.size ≤ gb236)); have n6_ := Aside0.mk ((by rw [hg]; exact (below_size bb) : w.heap.size ≤ gb236)); have n7_ := Aside0.mk ((by rw [hg]; exact Nat.ne_of_lt (blk_lt (rb BK227.out)) : gb227 ≠ gb236)); have n8_ := Aside0.mk ((by rw [hg]; exact Nat.ne_of_gt (blk_lt (rb BK227.out)) : gb236 ≠ gb227)); have n9_ := Aside0.mk ((by rw [hg]; exact Nat.ne_of_lt (blk_lt (rb BK228.out)) : gb228 ≠ gb236)); have n10_ := Aside0.mk ((by rw [hg]; exact Nat.ne_of_gt (blk_lt (rb BK228.out)) : gb236 ≠ gb228)); clear HO234; clear BK227; clear BK228; clear HB; have HO234 := n0_; have BK227 := n1_; have BK228 := n2_; have HB := n3_; have BK236 := n4_; have GW236 := n5_; have GE236 := n6_; have NB227_236 := n7_; have NB236_227 := n8_; have NB228_236 := n9_; have NB236_228 := n10_; clear n0_ n1_ n2_ n3_ n4_ n5_ n6_ n7_ n8_ n9_ n10_; clear hb hbox hg; have hnb85 := NB236_227.out; have hnc85 := NB227_236.out; have hnb86 := NB236_228.out; have hnc86 := NB228_236.out; have hcz87_0 : w84.cell? ⟨gb236, 0, none⟩ = some (.int .i64 0) := (blk_cell BK236.out 0).trans rfl; have hcz87_1 : w84.cell? ⟨gb236, 1, none⟩ = some (.int .i64 0) := (blk_cell BK236.out 1).trans rfl; have hcz87_2 : w84.cell? ⟨gb236, 2, none⟩ = some (.string (⟨#[]⟩ : ByteArray)) := (blk_cell BK236.out 2).trans rfl; have hcz87_3 : w84.cell? ⟨gb236, 3, none⟩ = some (.slice none 0 0) := (blk_cell BK236.out 3).trans rfl; have hfz87_0 := blk_frozen BK236.out 0; have hfz87_1 := blk_frozen BK236.out 1; have hfz87_2 := blk_frozen BK236.out 2; have hfz87_3 := blk_frozen BK236.out 3; obtain ⟨Ao88, co88, eo88⟩ := Kd.R_slice HO234.out; subst eo88; have hcz89_0 : w84.cell? ⟨gb228, 0, none⟩ = some (.int .i64 0) := (blk_cell BK228.out 0).trans rfl; have hcz89_1 : w84.cell? ⟨gb228, 1, none⟩ = some (.int .i64 0) := (blk_cell BK228.out 1).trans rfl; have hcz89_2 : w84.cell? ⟨gb228, 2, none⟩ = some (.int .i64 0) := (blk_cell BK228.out 2).trans rfl; have hcz89_3 : w84.cell? ⟨gb228, 3, none⟩ = some (.int .i64 0) := (blk_cell BK228.out 3).trans rfl; have hfz89_0 := blk_frozen BK228.out 0; have hfz89_1 := blk_frozen BK228.out 1; have hfz89_2 := blk_frozen BK228.out 2; have hfz89_3 := blk_frozen BK228.out 3; have hcz90_0 : w84.cell? ⟨gb227, 0, none⟩ = some (.int .i64 0) := (blk_cell BK227.out 0).trans rfl; have hcz90_1 : w84.cell? ⟨gb227, 1, none⟩ = some (.int .i64 0) := (blk_cell BK227.out 1).trans rfl; have hcz90_2 : w84.cell? ⟨gb227, 2, none⟩ = some (.int .i64 0) := (blk_cell BK227.out 2).trans rfl; have hcz90_3 : w84.cell? ⟨gb227, 3, none⟩ = some (.int .i64 0) := (blk_cell BK227.out 3).trans rfl; have hfz90_0 := blk_frozen BK227.out 0; have hfz90_1 := blk_frozen BK227.out 1; have hfz90_2 := blk_frozen BK227.out 2; have hfz90_3 := blk_frozen BK227.out 3))
     refine bodyPost_ret (results_ctt rfl _ _ gb227 27 #[.int .i64 0, .int .i64 0, .int .i64 0, .int .i64 0] (0, 0) _ rfl (rb (blk_put (cs := #[.int .i64 0, .int .i64 0, .int .i64 0, .int .i64 0]) (rb (blk_put (cs := #[.int .i64 0, .int .i64 0, .int .i64 0, .int .i64 0]) (rb (blk_put (cs := #[.int .i64 0, .int .i64 0, .int .i64 0, .int .i64 0]) (rb (blk_put (cs := #[.int .i64 0, .int .i64 0, .int .i64 0, .int .i64 0]) (rb (blk_far (rb (blk_far (rb (blk_far (rb (blk_far (rb BK227.out) NB227_236.out _)) NB227_236.out _)) NB227_236.out _)) NB227_236.out _)) 0 _ rfl)) 1 _ rfl)) 2 _ rfl)) 3 _ rfl)) Tryd.underlying27 rfl (by kernel_rfl)) rfl ?_
     exact ⟨by first | rfl | (simp [errW_none, errW_some] <;> rfl) | (simp only [← hji8]; first | rfl | (simp [errW_none, errW_some] <;> rfl)) | (simp [*, errW_none, errW_some] <;> rfl), bb⟩
   ·rw [if_neg c10] at H
    exact absurd H (by simp)
  ·rw [if_neg c9] at H
   exact absurd H (by simp)

end Go.Proofs.YtpbnfnaebdmagaaDoor.PT
