-- printed by a program of this session out of the translation; see NOTES.md
import Derived.Test.YtjicfkmpgogppaaPOx0
import Derived.Test.YtjicfkmpgogppaaPOx20
import Derived.Test.YtjicfkmpgogppaaRb
namespace Go.Proofs.Ytjicfkmpgogppaa.PO
open Go.RowKit Go.Proofs.YtjicfkmpgogppaaW.PrintWords Go.Proofs.YtjicfkmpgogppaaW.PrintLast Go.Proofs.YtjicfkmpgogppaaW.PrintMore Go.Proofs.YtjicfkmpgogppaaRb
attribute [local go_sem] max2_int min2_int max_two min_two max_three min_three max_four min_four   -- for this text's walks alone
set_option linter.unusedVariables false
set_option linter.unusedSimpArgs false

/-! ### precinctref18_Get: function 35 -/
mutual
def precinctref18_Get.j0 : Nat → Bool → ByteArray → Int → Int → Int → ByteArray → List (S57) → Option (ByteArray × Int × (List (S57)) × Int)
 | 0, _, _, _, _, _, _, _ => none
 | k + 1, x29, x382000, x382001, x390000, x390001, x390002, x390003 => if x29 = true then (some (x382000, x382001, ([] : List (S57)), 4)) else (if 0 < (x390003.length : Int) then (if ((rd_T57 x390003 0).f0) = 1 then (if 1 < (x390003.length : Int) then (if ((rd_T57 x390003 1).f0) = 0 then (if 2 < (x390003.length : Int) then (precinctref18_Get.j1 k (((rd_T57 x390003 2).f0) != 2) x382000 x382001 x390000 x390001 x390002 x390003) else (none)) else (precinctref18_Get.j1 k true x382000 x382001 x390000 x390001 x390002 x390003)) else (none)) else (precinctref18_Get.j1 k true x382000 x382001 x390000 x390001 x390002 x390003)) else (none))
def precinctref18_Get.j1 : Nat → Bool → ByteArray → Int → Int → Int → ByteArray → List (S57) → Option (ByteArray × Int × (List (S57)) × Int)
 | 0, _, _, _, _, _, _, _ => none
 | k + 1, x52, x382000, x382001, x390000, x390001, x390002, x390003 => if x52 = true then (some (x382000, x382001, ([] : List (S57)), 4)) else (if 1 < (x390003.length : Int) then (if ((rd_T57 x390003 1).f1) < 0 then (some (x382000, x382001, ([] : List (S57)), 4)) else (if ((rd_T57 x390003 1).f1) ≥ 10 then (some (x382000, x382001, ([] : List (S57)), 4)) else (if 0 < (x390003.length : Int) then (if 2 < (x390003.length : Int) then (some ((rd_T57 x390003 0).f2, (rd_T57 x390003 1).f1, (rd_T57 x390003 2).f3, 0)) else (none)) else (none)))) else (none))
end
def precinctref18_Get.f (k : Nat) (a0 : ByteArray) : Option (ByteArray × Int × (List (S57)) × Int) := if (a0.size : Int) > 4096 then (some ((⟨#[]⟩ : ByteArray), 0, ([] : List (S57)), 5)) else ((precinctref02_Get.f k a0).bind fun bt382 => (if bt382.2.2.2.2 = 0 then (if bt382.1 = 2 then (precinctref18_Get.j0 k ((bt382.2.2.2.1.length : Int) != 3) (⟨#[]⟩ : ByteArray) 0 bt382.1 bt382.2.1 bt382.2.2.1 bt382.2.2.2.1) else (precinctref18_Get.j0 k true (⟨#[]⟩ : ByteArray) 0 bt382.1 bt382.2.1 bt382.2.2.1 bt382.2.2.2.1)) else (some ((⟨#[]⟩ : ByteArray), 0, ([] : List (S57)), bt382.2.2.2.2))))
theorem precinctref18_Get.mono_l : ∀ k, (∀ y0 y1 y2 y3 y4 y5 y6, LeO (precinctref18_Get.j0 k y0 y1 y2 y3 y4 y5 y6) (precinctref18_Get.j0 (k + 1) y0 y1 y2 y3 y4 y5 y6)) ∧ (∀ y0 y1 y2 y3 y4 y5 y6, LeO (precinctref18_Get.j1 k y0 y1 y2 y3 y4 y5 y6) (precinctref18_Get.j1 (k + 1) y0 y1 y2 y3 y4 y5 y6))
 | 0 => ⟨fun _ _ _ _ _ _ _ r h => by simp [precinctref18_Get.j0] at h, fun _ _ _ _ _ _ _ r h => by simp [precinctref18_Get.j1] at h⟩
 | k + 1 => by
  obtain ⟨ih0, ih1⟩ := precinctref18_Get.mono_l k
  refine ⟨?_, ?_⟩
  ·intro y0 y1 y2 y3 y4 y5 y6
   unfold precinctref18_Get.j0
   repeat' first
   | (with_reducible exact ih0 _ _ _ _ _ _ _)
   | (with_reducible exact ih1 _ _ _ _ _ _ _)
   | (with_reducible exact precinctref02_Get.mono _ _)
   | (with_reducible exact LeO.refl _)
   | (with_reducible exact LeO.none _)
   | (with_reducible refine LeO.ite ?_ ?_)
   | (with_reducible refine LeO.bind ?_ (fun _ => ?_))
   | exact ih0 _ _ _ _ _ _ _
   | exact ih1 _ _ _ _ _ _ _
   | exact precinctref02_Get.mono _ _
   | exact LeO.none _
   | refine LeO.ite ?_ ?_
   | refine LeO.bind ?_ (fun _ => ?_)
  ·intro y0 y1 y2 y3 y4 y5 y6
   unfold precinctref18_Get.j1
   repeat' first
   | (with_reducible exact ih0 _ _ _ _ _ _ _)
   | (with_reducible exact ih1 _ _ _ _ _ _ _)
   | (with_reducible exact precinctref02_Get.mono _ _)
   | (with_reducible exact LeO.refl _)
   | (with_reducible exact LeO.none _)
   | (with_reducible refine LeO.ite ?_ ?_)
   | (with_reducible refine LeO.bind ?_ (fun _ => ?_))
   | exact ih0 _ _ _ _ _ _ _
   | exact ih1 _ _ _ _ _ _ _
   | exact precinctref02_Get.mono _ _
   | exact LeO.none _
   | refine LeO.ite ?_ ?_
   | refine LeO.bind ?_ (fun _ => ?_)
theorem precinctref18_Get.mono : ∀ a0 k, LeO (precinctref18_Get.f k a0) (precinctref18_Get.f (k + 1) a0) := by
 intro a0 k
 obtain ⟨ih0, ih1⟩ := precinctref18_Get.mono_l k
 unfold precinctref18_Get.f
 repeat' first
   | (with_reducible exact ih0 _ _ _ _ _ _ _)
   | (with_reducible exact ih1 _ _ _ _ _ _ _)
   | (with_reducible exact precinctref02_Get.mono _ _)
   | (with_reducible exact LeO.refl _)
   | (with_reducible exact LeO.none _)
   | (with_reducible refine LeO.ite ?_ ?_)
   | (with_reducible refine LeO.bind ?_ (fun _ => ?_))
   | exact ih0 _ _ _ _ _ _ _
   | exact ih1 _ _ _ _ _ _ _
   | exact precinctref02_Get.mono _ _
   | exact LeO.none _
   | refine LeO.ite ?_ ?_
   | refine LeO.bind ?_ (fun _ => ?_)
def precinctref18_Get.T13 : Bool × List (List Nat × List Nat) := (true, [([], []), ([0], [0]), ([1], [1]), ([2], [2]), ([3], [3]), ([], []), ([5], [5]), ([6], [6]), ([7], [7]), ([8], [8]), ([], []), ([10], [10]), ([11], [11]), ([12], [12]), ([13], [13]), ([4, 9, 14], [4, 9, 14]), ([15, 0, 1, 2, 3, 4, 5, 6, 7, 8, 9, 10, 11, 12, 13, 14, 15], [15]), ([16, 0, 1, 2, 3, 4, 5, 6, 7, 8, 9, 10, 11, 12, 13, 14, 15, 16], [])])
def precinctref18_Get.B13 : List Nat := [0, 1, 3, 7, 15, 0, 32, 96, 224, 480, 0, 1024, 3072, 7168, 15360, 32767, 65535, 131071]
theorem precinctref18_Get.tab13 : rtab .any (opsOf Try.f35 13) = precinctref18_Get.T13 := by kernel_rfl
theorem precinctref18_Get.bits13 : waitsOk precinctref18_Get.T13.2 precinctref18_Get.B13 = true := by kernel_rfl
set_option maxHeartbeats 8000000 in
set_option maxRecDepth 100000 in
theorem precinctref18_Get.calls (k : Nat) (a0 : ByteArray) (r1 : ByteArray) (r2 : Int) (r3 : List (S57)) (r4 : Int) (w : World) (h : precinctref18_Get.f k a0 = some (r1, r2, r3, r4)) :
  Calls Try.prog 35 #[.string a0] w fun e w' => ∃ v2_ : Value, e = .returned (.tuple #[.agg #[.string r1, .int .i64 r2, v2_], .int .i64 r4]) ∧ Kd.R k57 57 w' w.heap.size (fun _ => True) v2_ r3 ∧ Below w.heap.size w w' := by
 have hu79 := Try.underlying79
 have hu57 := Try.underlying57
 have HB := Aside0.mk (Below.refl w.heap.size w)
 have H : (if (a0.size : Int) > 4096 then (some ((⟨#[]⟩ : ByteArray), 0, ([] : List (S57)), 5)) else ((precinctref02_Get.f k a0).bind fun bt382 => (if bt382.2.2.2.2 = 0 then (if bt382.1 = 2 then (precinctref18_Get.j0 k ((bt382.2.2.2.1.length : Int) != 3) (⟨#[]⟩ : ByteArray) 0 bt382.1 bt382.2.1 bt382.2.2.1 bt382.2.2.2.1) else (precinctref18_Get.j0 k true (⟨#[]⟩ : ByteArray) 0 bt382.1 bt382.2.1 bt382.2.2.1 bt382.2.2.2.1)) else (some ((⟨#[]⟩ : ByteArray), 0, ([] : List (S57)), bt382.2.2.2.2))))) = some (r1, r2, r3, r4) := h
 clear h
 by_cases c2 : (a0.size : Int) > 4096
 ·rw [if_pos c2] at H
  have c2b0 : decide (4096 < (a0.size : Int)) = true := decide_eq_true c2
  have c2b1 : decide (4096 < a0.size) = true := decide_eq_true (by omega)
  clear c2
  simp only [Option.some.injEq, Prod.mk.injEq] at H
  obtain ⟨rfl, rfl, rfl, rfl⟩ := H
  go_enter Try.func35, Try.ntmps35
  go_wp2_with (first | ((with_reducible refine gate_dst (N := 2) rfl ?_); (try (refine gate_guard (by rfl) ?_; dsimp only)); refine box_event ?hg (N := 2) ?hd (cs := #[.string (⟨#[]⟩ : ByteArray), .int .i64 0, .slice none 0 0]) (t := 79) ?hr ?_; (case hd => rfl); (case hg => rfl); (case hr => first | (go_simp; done) | (go_simp; rfl)); intro gb380 hg w3 hbox hb; have n0_ := Aside0.mk (below_step bb hb); have n1_ := Aside0.mk (hbox); have n2_ := Aside0.mk ((by rw [hg]; exact (below_size bb) : w.heap.size ≤ gb380)); have n3_ := Aside0.mk ((by rw [hg]; exact (below_size bb) : w.heap.size ≤ gb380)); clear HB; have HB := n0_; have BK380 := n1_; have GW380 := n2_; have GE380 := n3_; clear n0_ n1_ n2_ n3_; clear hb hbox hg) | ((with_reducible refine gate_dst (N := 4) rfl ?_); (try (refine gate_guard (by rfl) ?_; dsimp only)); refine box_event ?hg (N := 4) ?hd (cs := #[.string (⟨#[]⟩ : ByteArray), .int .i64 0, .slice none 0 0]) (t := 79) ?hr ?_; (case hd => rfl); (case hg => rfl); (case hr => first | (go_simp; done) | (go_simp; rfl)); intro gb381 hg w4 hbox hb; have n0_ := Aside0.mk (blk_below (g := gb380) (o := .cells #[.string (⟨#[]⟩ : ByteArray), .int .i64 0, .slice none 0 0] 79 (0, 0)) (rb BK380.out) hb); have n1_ := Aside0.mk (below_step bb hb); have n2_ := Aside0.mk (hbox); have n3_ := Aside0.mk ((by rw [hg]; exact (below_size bb) : w.heap.size ≤ gb381)); have n4_ := Aside0.mk ((by rw [hg]; exact (below_size bb) : w.heap.size ≤ gb381)); have n5_ := Aside0.mk ((by rw [hg]; exact Nat.ne_of_lt (blk_lt (g := gb380) (o := .cells #[.string (⟨#[]⟩ : ByteArray), .int .i64 0, .slice none 0 0] 79 (0, 0)) (rb BK380.out)) : gb380 ≠ gb381)); have n6_ := Aside0.mk ((by rw [hg]; exact Nat.ne_of_gt (blk_lt (g := gb380) (o := .cells #[.string (⟨#[]⟩ : ByteArray), .int .i64 0, .slice none 0 0] 79 (0, 0)) (rb BK380.out)) : gb381 ≠ gb380)); clear BK380; clear HB; have BK380 := n0_; have HB := n1_; have BK381 := n2_; have GW381 := n3_; have GE381 := n4_; have NB380_381 := n5_; have NB381_380 := n6_; clear n0_ n1_ n2_ n3_ n4_ n5_ n6_; clear hb hbox hg; have hnb5 := NB381_380.out; have hnc5 := NB380_381.out; have hcz6_0 : w4.cell? ⟨gb381, 0, none⟩ = some (.string (⟨#[]⟩ : ByteArray)) := (blk_cell BK381.out 0).trans rfl; have hcz6_1 : w4.cell? ⟨gb381, 1, none⟩ = some (.int .i64 0) := (blk_cell BK381.out 1).trans rfl; have hcz6_2 : w4.cell? ⟨gb381, 2, none⟩ = some (.slice none 0 0) := (blk_cell BK381.out 2).trans rfl; have hfz6_0 := blk_frozen BK381.out 0; have hfz6_1 := blk_frozen BK381.out 1; have hfz6_2 := blk_frozen BK381.out 2; have hcz7_0 : w4.cell? ⟨gb380, 0, none⟩ = some (.string (⟨#[]⟩ : ByteArray)) := (blk_cell BK380.out 0).trans rfl; have hcz7_1 : w4.cell? ⟨gb380, 1, none⟩ = some (.int .i64 0) := (blk_cell BK380.out 1).trans rfl; have hcz7_2 : w4.cell? ⟨gb380, 2, none⟩ = some (.slice none 0 0) := (blk_cell BK380.out 2).trans rfl; have hfz7_0 := blk_frozen BK380.out 0; have hfz7_1 := blk_frozen BK380.out 1; have hfz7_2 := blk_frozen BK380.out 2))
  refine bodyPost_ret (results_ct rfl _ _ gb380 79 #[.string (⟨#[]⟩ : ByteArray), .int .i64 0, .slice none 0 0] (0, 0) _ rfl (rb (blk_put (cs := #[.string (⟨#[]⟩ : ByteArray), .int .i64 0, .slice none 0 0]) (rb (blk_put (cs := #[.string (⟨#[]⟩ : ByteArray), .int .i64 0, .slice none 0 0]) (rb (blk_put (cs := #[.string (⟨#[]⟩ : ByteArray), .int .i64 0, .slice none 0 0]) (rb (blk_far (rb (blk_far (rb (blk_far (rb BK380.out) NB380_381.out _)) NB380_381.out _)) NB380_381.out _)) 0 _ rfl)) 1 _ rfl)) 2 _ rfl)) Try.underlying79 rfl (by kernel_rfl)) rfl ?_
  exact ⟨_, by first | rfl | (simp [errW_none, errW_some] <;> rfl) | (simp [*, errW_none, errW_some] <;> rfl), kn, bb⟩
 ·rw [if_neg c2] at H
  have c2b0 : decide (4096 < (a0.size : Int)) = false := decide_eq_false c2
  have c2b1 : decide (4096 < a0.size) = false := decide_eq_false (by omega)
  clear c2
  replace H := Option.bind_eq_some_iff.mp H
  obtain ⟨⟨t382, t383, t384, t385, t388⟩, A80, H⟩ := H
  replace H : (if t388 = 0 then (if t382 = 2 then (precinctref18_Get.j0 k ((t385.length : Int) != 3) (⟨#[]⟩ : ByteArray) 0 t382 t383 t384 t385) else (precinctref18_Get.j0 k true (⟨#[]⟩ : ByteArray) 0 t382 t383 t384 t385)) else (some ((⟨#[]⟩ : ByteArray), 0, ([] : List (S57)), t388))) = some (r1, r2, r3, r4) := H
  have A8 := Aside0.mk A80
  clear A80
  by_cases c9 : t388 = 0
  ·rw [if_pos c9] at H
   have c9b0 : (t388 == 0) = true := beq_iff_eq.mpr c9
   have c9b1 : (t388 != 0) = false := bne_eq_false_iff_eq.mpr c9
   clear c9
   have HC10 := Aside0.mk H
   clear H
   go_enter Try.func35, Try.ntmps35
   go_upto_region 7 with (first | ((with_reducible refine gate_dst (N := 2) rfl ?_); (try (refine gate_guard (by rfl) ?_; dsimp only)); refine box_event ?hg (N := 2) ?hd (cs := #[.string (⟨#[]⟩ : ByteArray), .int .i64 0, .slice none 0 0]) (t := 79) ?hr ?_; (case hd => rfl); (case hg => rfl); (case hr => first | (go_simp; done) | (go_simp; rfl)); intro gb380 hg w11 hbox hb; have n0_ := Aside0.mk (below_step bb hb); have n1_ := Aside0.mk (hbox); have n2_ := Aside0.mk ((by rw [hg]; exact (below_size bb) : w.heap.size ≤ gb380)); have n3_ := Aside0.mk ((by rw [hg]; exact (below_size bb) : w.heap.size ≤ gb380)); clear HB; have HB := n0_; have BK380 := n1_; have GW380 := n2_; have GE380 := n3_; clear n0_ n1_ n2_ n3_; clear hb hbox hg) | ((with_reducible refine gate_dst (N := 4) rfl ?_); (try (refine gate_guard (by rfl) ?_; dsimp only)); refine box_event ?hg (N := 4) ?hd (cs := #[.string (⟨#[]⟩ : ByteArray), .int .i64 0, .slice none 0 0]) (t := 79) ?hr ?_; (case hd => rfl); (case hg => rfl); (case hr => first | (go_simp; done) | (go_simp; rfl)); intro gb381 hg w12 hbox hb; have n0_ := Aside0.mk (blk_below (g := gb380) (o := .cells #[.string (⟨#[]⟩ : ByteArray), .int .i64 0, .slice none 0 0] 79 (0, 0)) (rb BK380.out) hb); have n1_ := Aside0.mk (below_step bb hb); have n2_ := Aside0.mk (hbox); have n3_ := Aside0.mk ((by rw [hg]; exact (below_size bb) : w.heap.size ≤ gb381)); have n4_ := Aside0.mk ((by rw [hg]; exact (below_size bb) : w.heap.size ≤ gb381)); have n5_ := Aside0.mk ((by rw [hg]; exact Nat.ne_of_lt (blk_lt (g := gb380) (o := .cells #[.string (⟨#[]⟩ : ByteArray), .int .i64 0, .slice none 0 0] 79 (0, 0)) (rb BK380.out)) : gb380 ≠ gb381)); have n6_ := Aside0.mk ((by rw [hg]; exact Nat.ne_of_gt (blk_lt (g := gb380) (o := .cells #[.string (⟨#[]⟩ : ByteArray), .int .i64 0, .slice none 0 0] 79 (0, 0)) (rb BK380.out)) : gb381 ≠ gb380)); clear BK380; clear HB; have BK380 := n0_; have HB := n1_; have BK381 := n2_; have GW381 := n3_; have GE381 := n4_; have NB380_381 := n5_; have NB381_380 := n6_; clear n0_ n1_ n2_ n3_ n4_ n5_ n6_; clear hb hbox hg; have hnb13 := NB381_380.out; have hnc13 := NB380_381.out; have hcz14_0 : w12.cell? ⟨gb381, 0, none⟩ = some (.string (⟨#[]⟩ : ByteArray)) := (blk_cell BK381.out 0).trans rfl; have hcz14_1 : w12.cell? ⟨gb381, 1, none⟩ = some (.int .i64 0) := (blk_cell BK381.out 1).trans rfl; have hcz14_2 : w12.cell? ⟨gb381, 2, none⟩ = some (.slice none 0 0) := (blk_cell BK381.out 2).trans rfl; have hfz14_0 := blk_frozen BK381.out 0; have hfz14_1 := blk_frozen BK381.out 1; have hfz14_2 := blk_frozen BK381.out 2) | ((with_reducible refine gate_callee (f := 76) rfl ?_); refine goesL_ (some 14) rfl rfl Try.func76 (by kernel_rfl) rfl #[.string a0] rfl ag ?_; (with_reducible refine (precinctref02_Get.calls k a0 t382 t383 t384 t385 t388 _ A8.out).mono ?_); rintro e w15 ⟨v386, rfl, ho0, hb⟩; refine ⟨_, rfl, ?_⟩; have n0_ := Aside0.mk (Kd.R_lower ho0 (below_size bb)); have n1_ := Aside0.mk (blk_below (g := gb380) (o := .cells #[.string (⟨#[]⟩ : ByteArray), .int .i64 0, .slice none 0 0] 79 (0, 0)) (rb (blk_far (rb (blk_far (rb (blk_far (rb BK380.out) NB380_381.out _)) NB380_381.out _)) NB380_381.out _)) hb); have n2_ := Aside0.mk (blk_below (g := gb381) (o := .cells #[.string (⟨#[]⟩ : ByteArray), .int .i64 0, .slice none 0 0] 79 (0, 0)) (rb (blk_put (cs := #[.string (⟨#[]⟩ : ByteArray), .int .i64 0, .slice none 0 0]) (rb (blk_put (cs := #[.string (⟨#[]⟩ : ByteArray), .int .i64 0, .slice none 0 0]) (rb (blk_put (cs := #[.string (⟨#[]⟩ : ByteArray), .int .i64 0, .slice none 0 0]) (rb BK381.out) 0 _ rfl)) 1 _ rfl)) 2 _ rfl)) hb); have n3_ := Aside0.mk (below_step bb hb); clear BK380; clear BK381; clear HB; have HO387 := n0_; have BK380 := n1_; have BK381 := n2_; have HB := n3_; clear n0_ n1_ n2_ n3_; (try clear hb); (try clear hb2); (try clear hk); (try clear hi); (try clear ho0)) | ((with_reducible refine gate_dst (N := 5) rfl ?_); (try (refine gate_guard (by rfl) ?_; dsimp only)); refine box_event ?hg (N := 5) ?hd (cs := #[.int .i64 0, .int .i64 0, .string (⟨#[]⟩ : ByteArray), .slice none 0 0]) (t := 57) ?hr ?_; (case hd => rfl); (case hg => rfl); (case hr => first | (go_simp; done) | (go_simp; rfl)); intro gb389 hg w16 hbox hb; have n0_ := Aside0.mk (Kd.R_below (Kd.R_elderB (kR HO387.out) gb389 (Nat.le_of_eq hg.symm)) hb); have n1_ := Aside0.mk (blk_below (g := gb380) (o := .cells #[.string (⟨#[]⟩ : ByteArray), .int .i64 0, .slice none 0 0] 79 (0, 0)) (rb BK380.out) hb); have n2_ := Aside0.mk (blk_below (g := gb381) (o := .cells #[.string (⟨#[]⟩ : ByteArray), .int .i64 0, .slice none 0 0] 79 (0, 0)) (rb BK381.out) hb); have n3_ := Aside0.mk (below_step bb hb); have n4_ := Aside0.mk (hbox); have n5_ := Aside0.mk ((by rw [hg]; exact (below_size bb) : w.heap.size ≤ gb389)); have n6_ := Aside0.mk ((by rw [hg]; exact (below_size bb) : w.heap.size ≤ gb389)); have n7_ := Aside0.mk ((by rw [hg]; exact Nat.ne_of_lt (blk_lt (g := gb380) (o := .cells #[.string (⟨#[]⟩ : ByteArray), .int .i64 0, .slice none 0 0] 79 (0, 0)) (rb BK380.out)) : gb380 ≠ gb389)); have n8_ := Aside0.mk ((by rw [hg]; exact Nat.ne_of_gt (blk_lt (g := gb380) (o := .cells #[.string (⟨#[]⟩ : ByteArray), .int .i64 0, .slice none 0 0] 79 (0, 0)) (rb BK380.out)) : gb389 ≠ gb380)); have n9_ := Aside0.mk ((by rw [hg]; exact Nat.ne_of_lt (blk_lt (g := gb381) (o := .cells #[.string (⟨#[]⟩ : ByteArray), .int .i64 0, .slice none 0 0] 79 (0, 0)) (rb BK381.out)) : gb381 ≠ gb389)); have n10_ := Aside0.mk ((by rw [hg]; exact Nat.ne_of_gt (blk_lt (g := gb381) (o := .cells #[.string (⟨#[]⟩ : ByteArray), .int .i64 0, .slice none 0 0] 79 (0, 0)) (rb BK381.out)) : gb389 ≠ gb381)); clear HO387; clear BK380; clear BK381; clear HB; have HO387 := n0_; have BK380 := n1_; have BK381 := n2_; have HB := n3_; have BK389 := n4_; have GW389 := n5_; have GE389 := n6_; have NB380_389 := n7_; have NB389_380 := n8_; have NB381_389 := n9_; have NB389_381 := n10_; clear n0_ n1_ n2_ n3_ n4_ n5_ n6_ n7_ n8_ n9_ n10_; clear hb hbox hg; have hnb17 := NB389_380.out; have hnc17 := NB380_389.out; have hnb18 := NB389_381.out; have hnc18 := NB381_389.out; have hcz19_0 : w16.cell? ⟨gb389, 0, none⟩ = some (.int .i64 0) := (blk_cell BK389.out 0).trans rfl; have hcz19_1 : w16.cell? ⟨gb389, 1, none⟩ = some (.int .i64 0) := (blk_cell BK389.out 1).trans rfl; have hcz19_2 : w16.cell? ⟨gb389, 2, none⟩ = some (.string (⟨#[]⟩ : ByteArray)) := (blk_cell BK389.out 2).trans rfl; have hcz19_3 : w16.cell? ⟨gb389, 3, none⟩ = some (.slice none 0 0) := (blk_cell BK389.out 3).trans rfl; have hfz19_0 := blk_frozen BK389.out 0; have hfz19_1 := blk_frozen BK389.out 1; have hfz19_2 := blk_frozen BK389.out 2; have hfz19_3 := blk_frozen BK389.out 3; obtain ⟨Ao20, co20, eo20⟩ := Kd.R_slice HO387.out; subst eo20))
   (try simp only [Act.put, List.setIfInBounds_toArray, List.set_cons_zero, List.set_cons_succ])
   go_cut [29] (fun v29 wc => ∃ (kq : Nat) (x29_9 : Bool), v29 = .bool x29_9 ∧ Aside0 (precinctref18_Get.j0 kq x29_9 (⟨#[]⟩ : ByteArray) 0 t382 t383 t384 t385 = some (r1, r2, r3, r4)) ∧ Aside0 (kq ≤ k) ∧ Aside0 (Kd.R k57 57 wc w.heap.size (fun k_ => k_ ≠ gb389) (.slice Ao20 t385.length co20) t385) ∧ Aside0 (wc.heap[gb380]? = some (.cells #[.string (⟨#[]⟩ : ByteArray), .int .i64 0, (.slice none 0 0)] 79 (0, 0))) ∧ Aside0 (wc.heap[gb381]? = some (.cells #[.string (⟨#[]⟩ : ByteArray), .int .i64 0, (.slice none 0 0)] 79 (0, 0))) ∧ Aside0 (wc.heap[gb389]? = some (.cells #[.int .i64 t382, .int .i64 t383, .string t384, (.slice Ao20 t385.length co20)] 57 (0, 0))) ∧ Aside0 (Below w.heap.size w wc))
   case first =>
    have H := HC10.out
    clear HC10
    by_cases c21 : t382 = 2
    ·rw [if_pos c21] at H
     have c21b0 : (t382 == 2) = true := beq_iff_eq.mpr c21
     have c21b1 : (t382 != 2) = false := bne_eq_false_iff_eq.mpr c21
     clear c21
     (first | rw [c21b0] | (simp only [i64_w, i32_w]; rw [c21b0]) | skip)
     have H' := Aside0.mk H
     clear H
     have hnb22 := NB389_380.out
     have hnc22 := NB380_389.out
     have hnb23 := NB389_381.out
     have hnc23 := NB381_389.out
     have hcz24_0 : w16.cell? ⟨gb389, 0, none⟩ = some (.int .i64 0) := (blk_cell BK389.out 0).trans rfl
     have hcz24_1 : w16.cell? ⟨gb389, 1, none⟩ = some (.int .i64 0) := (blk_cell BK389.out 1).trans rfl
     have hcz24_2 : w16.cell? ⟨gb389, 2, none⟩ = some (.string (⟨#[]⟩ : ByteArray)) := (blk_cell BK389.out 2).trans rfl
     have hcz24_3 : w16.cell? ⟨gb389, 3, none⟩ = some (.slice none 0 0) := (blk_cell BK389.out 3).trans rfl
     have hfz24_0 := blk_frozen BK389.out 0
     have hfz24_1 := blk_frozen BK389.out 1
     have hfz24_2 := blk_frozen BK389.out 2
     have hfz24_3 := blk_frozen BK389.out 3
     go_wp2
     go_meet
     case rel => exact ⟨_, (((t385.length : Int) != 3)), (by first | rfl | (simp; done) | (simp [*]; done)), H', ⟨by first | omega | exact Nat.le_refl _⟩, ⟨kR (Kd.R_mono (Kd.R_far (p := ⟨gb389, 3, none⟩) (Kd.R_far (p := ⟨gb389, 2, none⟩) (Kd.R_far (p := ⟨gb389, 1, none⟩) (Kd.R_far (p := ⟨gb389, 0, none⟩) (Kd.R_mono HO387.out (fun k_ hk => (⟨hk, hk.2⟩ : _ ∧ k_ ≠ gb389))) (fun _ hk => hk.2) (.int .i64 t382)) (fun _ hk => hk.2) (.int .i64 t383)) (fun _ hk => hk.2) (.string t384)) (fun _ hk => hk.2) (.slice Ao20 t385.length co20)) (fun _ hk => hk.1.2))⟩, ⟨by (with_reducible repeat (first | refine blk_drewN ?_ _ | refine blk_drew ?_ | refine blk_alloc ?_ _)); refine blk_far ?_ NB380_389.out _; (with_reducible repeat (first | refine blk_drewN ?_ _ | refine blk_drew ?_ | refine blk_alloc ?_ _)); refine blk_far ?_ NB380_389.out _; (with_reducible repeat (first | refine blk_drewN ?_ _ | refine blk_drew ?_ | refine blk_alloc ?_ _)); refine blk_far ?_ NB380_389.out _; (with_reducible repeat (first | refine blk_drewN ?_ _ | refine blk_drew ?_ | refine blk_alloc ?_ _)); refine blk_far ?_ NB380_389.out _; (with_reducible repeat (first | refine blk_drewN ?_ _ | refine blk_drew ?_ | refine blk_alloc ?_ _)); exact BK380.out⟩, ⟨by (with_reducible repeat (first | refine blk_drewN ?_ _ | refine blk_drew ?_ | refine blk_alloc ?_ _)); refine blk_far ?_ NB381_389.out _; (with_reducible repeat (first | refine blk_drewN ?_ _ | refine blk_drew ?_ | refine blk_alloc ?_ _)); refine blk_far ?_ NB381_389.out _; (with_reducible repeat (first | refine blk_drewN ?_ _ | refine blk_drew ?_ | refine blk_alloc ?_ _)); refine blk_far ?_ NB381_389.out _; (with_reducible repeat (first | refine blk_drewN ?_ _ | refine blk_drew ?_ | refine blk_alloc ?_ _)); refine blk_far ?_ NB381_389.out _; (with_reducible repeat (first | refine blk_drewN ?_ _ | refine blk_drew ?_ | refine blk_alloc ?_ _)); exact BK381.out⟩, ⟨by (with_reducible repeat (first | refine blk_drewN ?_ _ | refine blk_drew ?_ | refine blk_alloc ?_ _)); refine blk_put (cs := #[.int .i64 t382, .int .i64 t383, .string t384, .slice none 0 0]) ?_ 3 _ rfl; (with_reducible repeat (first | refine blk_drewN ?_ _ | refine blk_drew ?_ | refine blk_alloc ?_ _)); refine blk_put (cs := #[.int .i64 t382, .int .i64 t383, .string (⟨#[]⟩ : ByteArray), .slice none 0 0]) ?_ 2 _ rfl; (with_reducible repeat (first | refine blk_drewN ?_ _ | refine blk_drew ?_ | refine blk_alloc ?_ _)); refine blk_put (cs := #[.int .i64 t382, .int .i64 0, .string (⟨#[]⟩ : ByteArray), .slice none 0 0]) ?_ 1 _ rfl; (with_reducible repeat (first | refine blk_drewN ?_ _ | refine blk_drew ?_ | refine blk_alloc ?_ _)); refine blk_put (cs := #[.int .i64 0, .int .i64 0, .string (⟨#[]⟩ : ByteArray), .slice none 0 0]) ?_ 0 _ rfl; (with_reducible repeat (first | refine blk_drewN ?_ _ | refine blk_drew ?_ | refine blk_alloc ?_ _)); exact BK389.out⟩, ⟨bb⟩⟩
    ·rw [if_neg c21] at H
     have c21b0 : (t382 == 2) = false := beq_eq_false_iff_ne.mpr c21
     have c21b1 : (t382 != 2) = true := bne_iff_ne.mpr c21
     (first | rw [c21b0] | (simp only [i64_w, i32_w]; rw [c21b0]) | skip)
     have H' := Aside0.mk H
     clear H
     have hnb25 := NB389_380.out
     have hnc25 := NB380_389.out
     have hnb26 := NB389_381.out
     have hnc26 := NB381_389.out
     have hcz27_0 : w16.cell? ⟨gb389, 0, none⟩ = some (.int .i64 0) := (blk_cell BK389.out 0).trans rfl
     have hcz27_1 : w16.cell? ⟨gb389, 1, none⟩ = some (.int .i64 0) := (blk_cell BK389.out 1).trans rfl
     have hcz27_2 : w16.cell? ⟨gb389, 2, none⟩ = some (.string (⟨#[]⟩ : ByteArray)) := (blk_cell BK389.out 2).trans rfl
     have hcz27_3 : w16.cell? ⟨gb389, 3, none⟩ = some (.slice none 0 0) := (blk_cell BK389.out 3).trans rfl
     have hfz27_0 := blk_frozen BK389.out 0
     have hfz27_1 := blk_frozen BK389.out 1
     have hfz27_2 := blk_frozen BK389.out 2
     have hfz27_3 := blk_frozen BK389.out 3
     go_wp2
     go_meet
     case rel => exact ⟨_, (true), (by first | rfl | (simp; done) | (simp [*]; done)), H', ⟨by first | omega | exact Nat.le_refl _⟩, ⟨kR (Kd.R_mono (Kd.R_far (p := ⟨gb389, 3, none⟩) (Kd.R_far (p := ⟨gb389, 2, none⟩) (Kd.R_far (p := ⟨gb389, 1, none⟩) (Kd.R_far (p := ⟨gb389, 0, none⟩) (Kd.R_mono HO387.out (fun k_ hk => (⟨hk, hk.2⟩ : _ ∧ k_ ≠ gb389))) (fun _ hk => hk.2) (.int .i64 t382)) (fun _ hk => hk.2) (.int .i64 t383)) (fun _ hk => hk.2) (.string t384)) (fun _ hk => hk.2) (.slice Ao20 t385.length co20)) (fun _ hk => hk.1.2))⟩, ⟨by (with_reducible repeat (first | refine blk_drewN ?_ _ | refine blk_drew ?_ | refine blk_alloc ?_ _)); refine blk_far ?_ NB380_389.out _; (with_reducible repeat (first | refine blk_drewN ?_ _ | refine blk_drew ?_ | refine blk_alloc ?_ _)); refine blk_far ?_ NB380_389.out _; (with_reducible repeat (first | refine blk_drewN ?_ _ | refine blk_drew ?_ | refine blk_alloc ?_ _)); refine blk_far ?_ NB380_389.out _; (with_reducible repeat (first | refine blk_drewN ?_ _ | refine blk_drew ?_ | refine blk_alloc ?_ _)); refine blk_far ?_ NB380_389.out _; (with_reducible repeat (first | refine blk_drewN ?_ _ | refine blk_drew ?_ | refine blk_alloc ?_ _)); exact BK380.out⟩, ⟨by (with_reducible repeat (first | refine blk_drewN ?_ _ | refine blk_drew ?_ | refine blk_alloc ?_ _)); refine blk_far ?_ NB381_389.out _; (with_reducible repeat (first | refine blk_drewN ?_ _ | refine blk_drew ?_ | refine blk_alloc ?_ _)); refine blk_far ?_ NB381_389.out _; (with_reducible repeat (first | refine blk_drewN ?_ _ | refine blk_drew ?_ | refine blk_alloc ?_ _)); refine blk_far ?_ NB381_389.out _; (with_reducible repeat (first | refine blk_drewN ?_ _ | refine blk_drew ?_ | refine blk_alloc ?_ _)); refine blk_far ?_ NB381_389.out _; (with_reducible repeat (first | refine blk_drewN ?_ _ | refine blk_drew ?_ | refine blk_alloc ?_ _)); exact BK381.out⟩, ⟨by (with_reducible repeat (first | refine blk_drewN ?_ _ | refine blk_drew ?_ | refine blk_alloc ?_ _)); refine blk_put (cs := #[.int .i64 t382, .int .i64 t383, .string t384, .slice none 0 0]) ?_ 3 _ rfl; (with_reducible repeat (first | refine blk_drewN ?_ _ | refine blk_drew ?_ | refine blk_alloc ?_ _)); refine blk_put (cs := #[.int .i64 t382, .int .i64 t383, .string (⟨#[]⟩ : ByteArray), .slice none 0 0]) ?_ 2 _ rfl; (with_reducible repeat (first | refine blk_drewN ?_ _ | refine blk_drew ?_ | refine blk_alloc ?_ _)); refine blk_put (cs := #[.int .i64 t382, .int .i64 0, .string (⟨#[]⟩ : ByteArray), .slice none 0 0]) ?_ 1 _ rfl; (with_reducible repeat (first | refine blk_drewN ?_ _ | refine blk_drew ?_ | refine blk_alloc ?_ _)); refine blk_put (cs := #[.int .i64 0, .int .i64 0, .string (⟨#[]⟩ : ByteArray), .slice none 0 0]) ?_ 0 _ rfl; (with_reducible repeat (first | refine blk_drewN ?_ _ | refine blk_drew ?_ | refine blk_alloc ?_ _)); exact BK389.out⟩, ⟨bb⟩⟩
   case rest =>
    clear HC10
    try clear c1
    try clear c2
    try clear c2b0
    try clear c2b1
    try clear p2
    try clear c3
    try clear c5
    try clear c7
    try clear c9
    try clear c9b0
    try clear c9b1
    try clear c13
    try clear c17
    try clear c18
    try clear c21
    try clear c21b0
    try clear c21b1
    try clear c22
    try clear c23
    try clear c25
    try clear c26
    try clear hcz14_0
    try clear hcz14_1
    try clear hcz14_2
    try clear hcz19_0
    try clear hcz19_1
    try clear hcz19_2
    try clear hcz19_3
    try clear hcz24_0
    try clear hcz24_1
    try clear hcz24_2
    try clear hcz24_3
    try clear hcz27_0
    try clear hcz27_1
    try clear hcz27_2
    try clear hcz27_3
    try clear hcz6_0
    try clear hcz6_1
    try clear hcz6_2
    try clear hcz7_0
    try clear hcz7_1
    try clear hcz7_2
    try clear hfz14_0
    try clear hfz14_1
    try clear hfz14_2
    try clear hfz19_0
    try clear hfz19_1
    try clear hfz19_2
    try clear hfz19_3
    try clear hfz24_0
    try clear hfz24_1
    try clear hfz24_2
    try clear hfz24_3
    try clear hfz27_0
    try clear hfz27_1
    try clear hfz27_2
    try clear hfz27_3
    try clear hfz6_0
    try clear hfz6_1
    try clear hfz6_2
    try clear hfz7_0
    try clear hfz7_1
    try clear hfz7_2
    obtain ⟨kq, x29_9, rfl, HA, HJ9, HO_390003, BK380, BK381, BK389, HB⟩ := hcut
    cases kq with
    | zero => exact absurd HA.out (by simp [precinctref18_Get.j0])
    | succ kj9 =>
     have H := HA.out
     clear HA
     simp only [precinctref18_Get.j0] at H
     by_cases c28 : x29_9 = true
     ·subst c28
      have H1 : (some ((⟨#[]⟩ : ByteArray), 0, ([] : List (S57)), 4)) = some (r1, r2, r3, r4) := by rw [if_pos rfl] at H; exact H
      clear H
      have H := H1
      clear H1
      simp only [Option.some.injEq, Prod.mk.injEq] at H
      obtain ⟨rfl, rfl, rfl, rfl⟩ := H
      have hnb29 := NB381_380.out
      have hnc29 := NB380_381.out
      have hnb30 := NB381_389.out
      have hnc30 := NB389_381.out
      have hcz31_0 : wc.cell? ⟨gb381, 0, none⟩ = some (.string (⟨#[]⟩ : ByteArray)) := (blk_cell BK381.out 0).trans rfl
      have hcz31_1 : wc.cell? ⟨gb381, 1, none⟩ = some (.int .i64 0) := (blk_cell BK381.out 1).trans rfl
      have hcz31_2 : wc.cell? ⟨gb381, 2, none⟩ = some (.slice none 0 0) := (blk_cell BK381.out 2).trans rfl
      have hfz31_0 := blk_frozen BK381.out 0
      have hfz31_1 := blk_frozen BK381.out 1
      have hfz31_2 := blk_frozen BK381.out 2
      have hnb32 := NB380_389.out
      have hnc32 := NB389_380.out
      have hcz33_0 : wc.cell? ⟨gb380, 0, none⟩ = some (.string (⟨#[]⟩ : ByteArray)) := (blk_cell BK380.out 0).trans rfl
      have hcz33_1 : wc.cell? ⟨gb380, 1, none⟩ = some (.int .i64 0) := (blk_cell BK380.out 1).trans rfl
      have hcz33_2 : wc.cell? ⟨gb380, 2, none⟩ = some (.slice none 0 0) := (blk_cell BK380.out 2).trans rfl
      have hfz33_0 := blk_frozen BK380.out 0
      have hfz33_1 := blk_frozen BK380.out 1
      have hfz33_2 := blk_frozen BK380.out 2
      go_wp2
      refine bodyPost_ret (results_ct rfl _ _ gb380 79 #[.string (⟨#[]⟩ : ByteArray), .int .i64 0, .slice none 0 0] (0, 0) _ rfl (rb (blk_put (cs := #[.string (⟨#[]⟩ : ByteArray), .int .i64 0, .slice none 0 0]) (rb (blk_put (cs := #[.string (⟨#[]⟩ : ByteArray), .int .i64 0, .slice none 0 0]) (rb (blk_put (cs := #[.string (⟨#[]⟩ : ByteArray), .int .i64 0, .slice none 0 0]) (rb BK380.out) 0 _ rfl)) 1 _ rfl)) 2 _ rfl)) Try.underlying79 rfl (by kernel_rfl)) rfl ?_
      exact ⟨_, by first | rfl | (simp [errW_none, errW_some] <;> rfl) | (simp [*, errW_none, errW_some] <;> rfl), kn, bb⟩
     ·replace c28 := Bool.eq_false_iff.mpr c28
      subst c28
      have H1 : (if 0 < (t385.length : Int) then (if ((rd_T57 t385 0).f0) = 1 then (if 1 < (t385.length : Int) then (if ((rd_T57 t385 1).f0) = 0 then (if 2 < (t385.length : Int) then (precinctref18_Get.j1 kj9 (((rd_T57 t385 2).f0) != 2) (⟨#[]⟩ : ByteArray) 0 t382 t383 t384 t385) else (none)) else (precinctref18_Get.j1 kj9 true (⟨#[]⟩ : ByteArray) 0 t382 t383 t384 t385)) else (none)) else (precinctref18_Get.j1 kj9 true (⟨#[]⟩ : ByteArray) 0 t382 t383 t384 t385)) else (none)) = some (r1, r2, r3, r4) := by rw [if_neg (show ¬ (false = true) by decide)] at H; exact H
      clear H
      have H := H1
      clear H1
      have HC34 := Aside0.mk H
      clear H
      go_upto_region 9 with (fail)
      go_cut [52] (fun v52 wc => ∃ (kq : Nat) (x52_33 : Bool), v52 = .bool x52_33 ∧ Aside0 (precinctref18_Get.j1 kq x52_33 (⟨#[]⟩ : ByteArray) 0 t382 t383 t384 t385 = some (r1, r2, r3, r4)) ∧ Aside0 (kq ≤ kj9) ∧ Aside0 (Kd.R k57 57 wc w.heap.size (fun k_ => k_ ≠ gb389) (.slice Ao20 t385.length co20) t385) ∧ Aside0 (wc.heap[gb380]? = some (.cells #[.string (⟨#[]⟩ : ByteArray), .int .i64 0, (.slice none 0 0)] 79 (0, 0))) ∧ Aside0 (wc.heap[gb381]? = some (.cells #[.string (⟨#[]⟩ : ByteArray), .int .i64 0, (.slice none 0 0)] 79 (0, 0))) ∧ Aside0 (wc.heap[gb389]? = some (.cells #[.int .i64 t382, .int .i64 t383, .string t384, (.slice Ao20 t385.length co20)] 57 (0, 0))) ∧ Aside0 (Below w.heap.size w wc))
      case first =>
       have H := HC34.out
       clear HC34
       by_cases c35 : 0 < (t385.length : Int)
       ·rw [if_pos c35] at H
        have c35b0 : decide (0 < (t385.length : Int)) = true := decide_eq_true c35
        have c35b1 : decide (0 < t385.length) = true := decide_eq_true (by omega)
        clear c35
        (first | rw [c35b0] | (simp only [i64_w, i32_w]; rw [c35b0]) | skip)
        by_cases c36 : ((rd_T57 t385 0).f0) = 1
        ·rw [if_pos c36] at H
         have c36b0 : (((rd_T57 t385 0).f0) == 1) = true := beq_iff_eq.mpr c36
         have c36b1 : (((rd_T57 t385 0).f0) != 1) = false := bne_eq_false_iff_eq.mpr c36
         clear c36
         by_cases c37 : 1 < (t385.length : Int)
         ·rw [if_pos c37] at H
          have c37b0 : decide (1 < (t385.length : Int)) = true := decide_eq_true c37
          have c37b1 : decide (1 < t385.length) = true := decide_eq_true (by omega)
          clear c37
          by_cases c38 : ((rd_T57 t385 1).f0) = 0
          ·rw [if_pos c38] at H
           have c38b0 : (((rd_T57 t385 1).f0) == 0) = true := beq_iff_eq.mpr c38
           have c38b1 : (((rd_T57 t385 1).f0) != 0) = false := bne_eq_false_iff_eq.mpr c38
           clear c38
           by_cases c39 : 2 < (t385.length : Int)
           ·rw [if_pos c39] at H
            have c39b0 : decide (2 < (t385.length : Int)) = true := decide_eq_true c39
            have c39b1 : decide (2 < t385.length) = true := decide_eq_true (by omega)
            clear c39
            have H' := Aside0.mk H
            clear H
            have hnb40 := NB389_380.out
            have hnc40 := NB380_389.out
            have hnb41 := NB389_381.out
            have hnc41 := NB381_389.out
            have hcz42_0 : wc.cell? ⟨gb389, 0, none⟩ = some (.int .i64 t382) := (blk_cell BK389.out 0).trans rfl
            have hcz42_1 : wc.cell? ⟨gb389, 1, none⟩ = some (.int .i64 t383) := (blk_cell BK389.out 1).trans rfl
            have hcz42_2 : wc.cell? ⟨gb389, 2, none⟩ = some (.string t384) := (blk_cell BK389.out 2).trans rfl
            have hcz42_3 : wc.cell? ⟨gb389, 3, none⟩ = some (.slice Ao20 t385.length co20) := (blk_cell BK389.out 3).trans rfl
            have hfz42_0 := blk_frozen BK389.out 0
            have hfz42_1 := blk_frozen BK389.out 1
            have hfz42_2 := blk_frozen BK389.out 2
            have hfz42_3 := blk_frozen BK389.out 3
            have p390 : 0 ≤ (0 : Int) := (by omega)
            have q390 : 0 < (t385.length : Int) := of_decide_eq_true (by first | (with_reducible assumption) | assumption)
            obtain ⟨ad390, A390_3, c390_3, e390, hx390_0, hx390_1, hx390_2, hx390_3, hl390_3, hi390_3⟩ := at_T57 (Kd.R_reads' HO_390003.out).2.2 0 p390 q390
            cases e390
            obtain ⟨ce390, hce390, hMe390, hcc390⟩ := Kd.R_get HO_390003.out z57 0 p390 (by first | exact q390 | exact of_decide_eq_true (by first | (with_reducible assumption) | assumption) | (have e_ := (Kd.R_reads' HO_390003.out).1; omega))
            obtain ⟨ve390_3, rfl, ge390_3⟩ := k57_openM hMe390
            have hv390_3 := hcc390 3 _ rfl
            rw [add_field _ _ 3 (by omega)] at hv390_3
            replace hv390_3 := Option.some.inj (hv390_3.symm.trans hx390_3)
            rw [hv390_3] at ge390_3
            have HL390_3 := Aside0.mk (show Kd.R k57 57 _ _ _ _ ((rd_T57 t385 0).f3) from ge390_3)
            clear hv390_3 ge390_3
            clear hcc390 hce390
            have qi390 : (0 < t385.length) = True := eq_true (by omega)
            (try rw [show ((0 : Int)).toNat = 0 from rfl] at hx390_0)
            (try rw [show 0 * 4 = 0 from rfl] at hx390_0)
            (try rw [Addr.add_zero'] at hx390_0)
            (try rw [show ((0 : Int)).toNat = 0 from rfl] at hx390_1)
            (try rw [show 0 * 4 = 0 from rfl] at hx390_1)
            (try rw [Addr.add_zero'] at hx390_1)
            (try rw [show ((0 : Int)).toNat = 0 from rfl] at hx390_2)
            (try rw [show 0 * 4 = 0 from rfl] at hx390_2)
            (try rw [Addr.add_zero'] at hx390_2)
            (try rw [show ((0 : Int)).toNat = 0 from rfl] at hx390_3)
            (try rw [show 0 * 4 = 0 from rfl] at hx390_3)
            (try rw [Addr.add_zero'] at hx390_3)
            have HR390_3 := Aside0.mk hi390_3
            have HC390_3 := Aside0.mk hl390_3
            clear hi390_3 hl390_3
            replace p390 := eq_true p390
            replace q390 := eq_true q390
            have p391 : 0 ≤ (1 : Int) := (by omega)
            have q391 : 1 < (t385.length : Int) := of_decide_eq_true (by first | (with_reducible assumption) | assumption)
            obtain ⟨ad391, A391_3, c391_3, e391, hx391_0, hx391_1, hx391_2, hx391_3, hl391_3, hi391_3⟩ := at_T57 (Kd.R_reads' HO_390003.out).2.2 1 p391 q391
            obtain rfl : ad390 = ad391 := (by injection e391)
            obtain ⟨ce391, hce391, hMe391, hcc391⟩ := Kd.R_get HO_390003.out z57 1 p391 (by first | exact q391 | exact of_decide_eq_true (by first | (with_reducible assumption) | assumption) | (have e_ := (Kd.R_reads' HO_390003.out).1; omega))
            obtain ⟨ve391_3, rfl, ge391_3⟩ := k57_openM hMe391
            have hv391_3 := hcc391 3 _ rfl
            rw [add_field _ _ 3 (by omega)] at hv391_3
            replace hv391_3 := Option.some.inj (hv391_3.symm.trans hx391_3)
            rw [hv391_3] at ge391_3
            have HL391_3 := Aside0.mk (show Kd.R k57 57 _ _ _ _ ((rd_T57 t385 1).f3) from ge391_3)
            clear hv391_3 ge391_3
            clear hcc391 hce391
            (try simp only [show (1 : Int).toNat = 1 from rfl, Nat.reduceMul, Nat.reduceEqDiff, Go.Addr.add, ↓reduceIte] at hx391_0 hx391_1 hx391_2 hx391_3)
            have qi391 : (1 < t385.length) = True := eq_true (by omega)
            (try rw [show ((1 : Int)).toNat = 1 from rfl] at hx391_0)
            (try rw [show 1 * 4 = 4 from rfl] at hx391_0)
            (try rw [show ((1 : Int)).toNat = 1 from rfl] at hx391_1)
            (try rw [show 1 * 4 = 4 from rfl] at hx391_1)
            (try rw [show ((1 : Int)).toNat = 1 from rfl] at hx391_2)
            (try rw [show 1 * 4 = 4 from rfl] at hx391_2)
            (try rw [show ((1 : Int)).toNat = 1 from rfl] at hx391_3)
            (try rw [show 1 * 4 = 4 from rfl] at hx391_3)
            have HR391_3 := Aside0.mk hi391_3
            have HC391_3 := Aside0.mk hl391_3
            clear hi391_3 hl391_3
            replace p391 := eq_true p391
            replace q391 := eq_true q391
            have p392 : 0 ≤ (2 : Int) := (by omega)
            have q392 : 2 < (t385.length : Int) := of_decide_eq_true (by first | (with_reducible assumption) | assumption)
            obtain ⟨ad392, A392_3, c392_3, e392, hx392_0, hx392_1, hx392_2, hx392_3, hl392_3, hi392_3⟩ := at_T57 (Kd.R_reads' HO_390003.out).2.2 2 p392 q392
            obtain rfl : ad390 = ad392 := (by injection e392)
            obtain ⟨ce392, hce392, hMe392, hcc392⟩ := Kd.R_get HO_390003.out z57 2 p392 (by first | exact q392 | exact of_decide_eq_true (by first | (with_reducible assumption) | assumption) | (have e_ := (Kd.R_reads' HO_390003.out).1; omega))
            obtain ⟨ve392_3, rfl, ge392_3⟩ := k57_openM hMe392
            have hv392_3 := hcc392 3 _ rfl
            rw [add_field _ _ 3 (by omega)] at hv392_3
            replace hv392_3 := Option.some.inj (hv392_3.symm.trans hx392_3)
            rw [hv392_3] at ge392_3
            have HL392_3 := Aside0.mk (show Kd.R k57 57 _ _ _ _ ((rd_T57 t385 2).f3) from ge392_3)
            clear hv392_3 ge392_3
            clear hcc392 hce392
            (try simp only [show (2 : Int).toNat = 2 from rfl, Nat.reduceMul, Nat.reduceEqDiff, Go.Addr.add, ↓reduceIte] at hx392_0 hx392_1 hx392_2 hx392_3)
            have qi392 : (2 < t385.length) = True := eq_true (by omega)
            (try rw [show ((2 : Int)).toNat = 2 from rfl] at hx392_0)
            (try rw [show 2 * 4 = 8 from rfl] at hx392_0)
            (try rw [show ((2 : Int)).toNat = 2 from rfl] at hx392_1)
            (try rw [show 2 * 4 = 8 from rfl] at hx392_1)
            (try rw [show ((2 : Int)).toNat = 2 from rfl] at hx392_2)
            (try rw [show 2 * 4 = 8 from rfl] at hx392_2)
            (try rw [show ((2 : Int)).toNat = 2 from rfl] at hx392_3)
            (try rw [show 2 * 4 = 8 from rfl] at hx392_3)
            have HR392_3 := Aside0.mk hi392_3
            have HC392_3 := Aside0.mk hl392_3
            clear hi392_3 hl392_3
            replace p392 := eq_true p392
            replace q392 := eq_true q392
            go_wp2
            go_meet
            case rel => exact ⟨_, ((((rd_T57 t385 2).f0) != 2)), (by first | rfl | (simp; done) | (simp [*]; done)), H', ⟨by have := HJ9.out; first | omega | exact Nat.le_refl _⟩, ⟨kR HO_390003.out⟩, ⟨by (with_reducible repeat (first | refine blk_drewN ?_ _ | refine blk_drew ?_ | refine blk_alloc ?_ _)); exact BK380.out⟩, ⟨by (with_reducible repeat (first | refine blk_drewN ?_ _ | refine blk_drew ?_ | refine blk_alloc ?_ _)); exact BK381.out⟩, ⟨by (with_reducible repeat (first | refine blk_drewN ?_ _ | refine blk_drew ?_ | refine blk_alloc ?_ _)); exact BK389.out⟩, ⟨bb⟩⟩
           ·rw [if_neg c39] at H
            exact absurd H (by simp)
          ·rw [if_neg c38] at H
           have c38b0 : (((rd_T57 t385 1).f0) == 0) = false := beq_eq_false_iff_ne.mpr c38
           have c38b1 : (((rd_T57 t385 1).f0) != 0) = true := bne_iff_ne.mpr c38
           have H' := Aside0.mk H
           clear H
           have hnb43 := NB389_380.out
           have hnc43 := NB380_389.out
           have hnb44 := NB389_381.out
           have hnc44 := NB381_389.out
           have hcz45_0 : wc.cell? ⟨gb389, 0, none⟩ = some (.int .i64 t382) := (blk_cell BK389.out 0).trans rfl
           have hcz45_1 : wc.cell? ⟨gb389, 1, none⟩ = some (.int .i64 t383) := (blk_cell BK389.out 1).trans rfl
           have hcz45_2 : wc.cell? ⟨gb389, 2, none⟩ = some (.string t384) := (blk_cell BK389.out 2).trans rfl
           have hcz45_3 : wc.cell? ⟨gb389, 3, none⟩ = some (.slice Ao20 t385.length co20) := (blk_cell BK389.out 3).trans rfl
           have hfz45_0 := blk_frozen BK389.out 0
           have hfz45_1 := blk_frozen BK389.out 1
           have hfz45_2 := blk_frozen BK389.out 2
           have hfz45_3 := blk_frozen BK389.out 3
           have p390 : 0 ≤ (0 : Int) := (by omega)
           have q390 : 0 < (t385.length : Int) := of_decide_eq_true (by first | (with_reducible assumption) | assumption)
           obtain ⟨ad390, A390_3, c390_3, e390, hx390_0, hx390_1, hx390_2, hx390_3, hl390_3, hi390_3⟩ := at_T57 (Kd.R_reads' HO_390003.out).2.2 0 p390 q390
           cases e390
           obtain ⟨ce390, hce390, hMe390, hcc390⟩ := Kd.R_get HO_390003.out z57 0 p390 (by first | exact q390 | exact of_decide_eq_true (by first | (with_reducible assumption) | assumption) | (have e_ := (Kd.R_reads' HO_390003.out).1; omega))
           obtain ⟨ve390_3, rfl, ge390_3⟩ := k57_openM hMe390
           have hv390_3 := hcc390 3 _ rfl
           rw [add_field _ _ 3 (by omega)] at hv390_3
           replace hv390_3 := Option.some.inj (hv390_3.symm.trans hx390_3)
           rw [hv390_3] at ge390_3
           have HL390_3 := Aside0.mk (show Kd.R k57 57 _ _ _ _ ((rd_T57 t385 0).f3) from ge390_3)
           clear hv390_3 ge390_3
           clear hcc390 hce390
           have qi390 : (0 < t385.length) = True := eq_true (by omega)
           (try rw [show ((0 : Int)).toNat = 0 from rfl] at hx390_0)
           (try rw [show 0 * 4 = 0 from rfl] at hx390_0)
           (try rw [Addr.add_zero'] at hx390_0)
           (try rw [show ((0 : Int)).toNat = 0 from rfl] at hx390_1)
           (try rw [show 0 * 4 = 0 from rfl] at hx390_1)
           (try rw [Addr.add_zero'] at hx390_1)
           (try rw [show ((0 : Int)).toNat = 0 from rfl] at hx390_2)
           (try rw [show 0 * 4 = 0 from rfl] at hx390_2)
           (try rw [Addr.add_zero'] at hx390_2)
           (try rw [show ((0 : Int)).toNat = 0 from rfl] at hx390_3)
           (try rw [show 0 * 4 = 0 from rfl] at hx390_3)
           (try rw [Addr.add_zero'] at hx390_3)
           have HR390_3 := Aside0.mk hi390_3
           have HC390_3 := Aside0.mk hl390_3
           clear hi390_3 hl390_3
           replace p390 := eq_true p390
           replace q390 := eq_true q390
           have p391 : 0 ≤ (1 : Int) := (by omega)
           have q391 : 1 < (t385.length : Int) := of_decide_eq_true (by first | (with_reducible assumption) | assumption)
           obtain ⟨ad391, A391_3, c391_3, e391, hx391_0, hx391_1, hx391_2, hx391_3, hl391_3, hi391_3⟩ := at_T57 (Kd.R_reads' HO_390003.out).2.2 1 p391 q391
           obtain rfl : ad390 = ad391 := (by injection e391)
           obtain ⟨ce391, hce391, hMe391, hcc391⟩ := Kd.R_get HO_390003.out z57 1 p391 (by first | exact q391 | exact of_decide_eq_true (by first | (with_reducible assumption) | assumption) | (have e_ := (Kd.R_reads' HO_390003.out).1; omega))
           obtain ⟨ve391_3, rfl, ge391_3⟩ := k57_openM hMe391
           have hv391_3 := hcc391 3 _ rfl
           rw [add_field _ _ 3 (by omega)] at hv391_3
           replace hv391_3 := Option.some.inj (hv391_3.symm.trans hx391_3)
           rw [hv391_3] at ge391_3
           have HL391_3 := Aside0.mk (show Kd.R k57 57 _ _ _ _ ((rd_T57 t385 1).f3) from ge391_3)
           clear hv391_3 ge391_3
           clear hcc391 hce391
           (try simp only [show (1 : Int).toNat = 1 from rfl, Nat.reduceMul, Nat.reduceEqDiff, Go.Addr.add, ↓reduceIte] at hx391_0 hx391_1 hx391_2 hx391_3)
           have qi391 : (1 < t385.length) = True := eq_true (by omega)
           (try rw [show ((1 : Int)).toNat = 1 from rfl] at hx391_0)
           (try rw [show 1 * 4 = 4 from rfl] at hx391_0)
           (try rw [show ((1 : Int)).toNat = 1 from rfl] at hx391_1)
           (try rw [show 1 * 4 = 4 from rfl] at hx391_1)
           (try rw [show ((1 : Int)).toNat = 1 from rfl] at hx391_2)
           (try rw [show 1 * 4 = 4 from rfl] at hx391_2)
           (try rw [show ((1 : Int)).toNat = 1 from rfl] at hx391_3)
           (try rw [show 1 * 4 = 4 from rfl] at hx391_3)
           have HR391_3 := Aside0.mk hi391_3
           have HC391_3 := Aside0.mk hl391_3
           clear hi391_3 hl391_3
           replace p391 := eq_true p391
           replace q391 := eq_true q391
           go_wp2
           go_meet
           case rel => exact ⟨_, (true), (by first | rfl | (simp; done) | (simp [*]; done)), H', ⟨by have := HJ9.out; first | omega | exact Nat.le_refl _⟩, ⟨kR HO_390003.out⟩, ⟨by (with_reducible repeat (first | refine blk_drewN ?_ _ | refine blk_drew ?_ | refine blk_alloc ?_ _)); exact BK380.out⟩, ⟨by (with_reducible repeat (first | refine blk_drewN ?_ _ | refine blk_drew ?_ | refine blk_alloc ?_ _)); exact BK381.out⟩, ⟨by (with_reducible repeat (first | refine blk_drewN ?_ _ | refine blk_drew ?_ | refine blk_alloc ?_ _)); exact BK389.out⟩, ⟨bb⟩⟩
         ·rw [if_neg c37] at H
          exact absurd H (by simp)
        ·rw [if_neg c36] at H
         have c36b0 : (((rd_T57 t385 0).f0) == 1) = false := beq_eq_false_iff_ne.mpr c36
         have c36b1 : (((rd_T57 t385 0).f0) != 1) = true := bne_iff_ne.mpr c36
         have H' := Aside0.mk H
         clear H
         have hnb46 := NB389_380.out
         have hnc46 := NB380_389.out
         have hnb47 := NB389_381.out
         have hnc47 := NB381_389.out
         have hcz48_0 : wc.cell? ⟨gb389, 0, none⟩ = some (.int .i64 t382) := (blk_cell BK389.out 0).trans rfl
         have hcz48_1 : wc.cell? ⟨gb389, 1, none⟩ = some (.int .i64 t383) := (blk_cell BK389.out 1).trans rfl
         have hcz48_2 : wc.cell? ⟨gb389, 2, none⟩ = some (.string t384) := (blk_cell BK389.out 2).trans rfl
         have hcz48_3 : wc.cell? ⟨gb389, 3, none⟩ = some (.slice Ao20 t385.length co20) := (blk_cell BK389.out 3).trans rfl
         have hfz48_0 := blk_frozen BK389.out 0
         have hfz48_1 := blk_frozen BK389.out 1
         have hfz48_2 := blk_frozen BK389.out 2
         have hfz48_3 := blk_frozen BK389.out 3
         have p390 : 0 ≤ (0 : Int) := (by omega)
         have q390 : 0 < (t385.length : Int) := of_decide_eq_true (by first | (with_reducible assumption) | assumption)
         obtain ⟨ad390, A390_3, c390_3, e390, hx390_0, hx390_1, hx390_2, hx390_3, hl390_3, hi390_3⟩ := at_T57 (Kd.R_reads' HO_390003.out).2.2 0 p390 q390
         cases e390
         obtain ⟨ce390, hce390, hMe390, hcc390⟩ := Kd.R_get HO_390003.out z57 0 p390 (by first | exact q390 | exact of_decide_eq_true (by first | (with_reducible assumption) | assumption) | (have e_ := (Kd.R_reads' HO_390003.out).1; omega))
         obtain ⟨ve390_3, rfl, ge390_3⟩ := k57_openM hMe390
         have hv390_3 := hcc390 3 _ rfl
         rw [add_field _ _ 3 (by omega)] at hv390_3
         replace hv390_3 := Option.some.inj (hv390_3.symm.trans hx390_3)
         rw [hv390_3] at ge390_3
         have HL390_3 := Aside0.mk (show Kd.R k57 57 _ _ _ _ ((rd_T57 t385 0).f3) from ge390_3)
         clear hv390_3 ge390_3
         clear hcc390 hce390
         have qi390 : (0 < t385.length) = True := eq_true (by omega)
         (try rw [show ((0 : Int)).toNat = 0 from rfl] at hx390_0)
         (try rw [show 0 * 4 = 0 from rfl] at hx390_0)
         (try rw [Addr.add_zero'] at hx390_0)
         (try rw [show ((0 : Int)).toNat = 0 from rfl] at hx390_1)
         (try rw [show 0 * 4 = 0 from rfl] at hx390_1)
         (try rw [Addr.add_zero'] at hx390_1)
         (try rw [show ((0 : Int)).toNat = 0 from rfl] at hx390_2)
         (try rw [show 0 * 4 = 0 from rfl] at hx390_2)
         (try rw [Addr.add_zero'] at hx390_2)
         (try rw [show ((0 : Int)).toNat = 0 from rfl] at hx390_3)
         (try rw [show 0 * 4 = 0 from rfl] at hx390_3)
         (try rw [Addr.add_zero'] at hx390_3)
         have HR390_3 := Aside0.mk hi390_3
         have HC390_3 := Aside0.mk hl390_3
         clear hi390_3 hl390_3
         replace p390 := eq_true p390
         replace q390 := eq_true q390
         go_wp2
         go_meet
         case rel => exact ⟨_, (true), (by first | rfl | (simp; done) | (simp [*]; done)), H', ⟨by have := HJ9.out; first | omega | exact Nat.le_refl _⟩, ⟨kR HO_390003.out⟩, ⟨by (with_reducible repeat (first | refine blk_drewN ?_ _ | refine blk_drew ?_ | refine blk_alloc ?_ _)); exact BK380.out⟩, ⟨by (with_reducible repeat (first | refine blk_drewN ?_ _ | refine blk_drew ?_ | refine blk_alloc ?_ _)); exact BK381.out⟩, ⟨by (with_reducible repeat (first | refine blk_drewN ?_ _ | refine blk_drew ?_ | refine blk_alloc ?_ _)); exact BK389.out⟩, ⟨bb⟩⟩
       ·rw [if_neg c35] at H
        exact absurd H (by simp)
      case rest =>
       clear HC34
       try clear c1
       try clear c2
       try clear c2b0
       try clear c2b1
       try clear p2
       try clear c3
       try clear p3
       try clear q3
       try clear hx3
       try clear qi3
       try clear c4
       try clear c5
       try clear c7
       try clear c9
       try clear c9b0
       try clear c9b1
       try clear c13
       try clear c17
       try clear c18
       try clear c21
       try clear c21b0
       try clear c21b1
       try clear c22
       try clear c23
       try clear c25
       try clear c26
       try clear c28
       try clear c29
       try clear c30
       try clear c32
       try clear c35
       try clear c35b0
       try clear c35b1
       try clear c36
       try clear c36b0
       try clear c36b1
       try clear c37
       try clear c37b0
       try clear c37b1
       try clear c38
       try clear c38b0
       try clear c38b1
       try clear c39
       try clear c39b0
       try clear c39b1
       try clear p39
       try clear q39
       try clear hx39
       try clear qi39
       try clear c40
       try clear c41
       try clear c43
       try clear c44
       try clear c46
       try clear c47
       try clear hcz14_0
       try clear hcz14_1
       try clear hcz14_2
       try clear hcz19_0
       try clear hcz19_1
       try clear hcz19_2
       try clear hcz19_3
       try clear hcz24_0
       try clear hcz24_1
       try clear hcz24_2
       try clear hcz24_3
       try clear hcz27_0
       try clear hcz27_1
       try clear hcz27_2
       try clear hcz27_3
       try clear hcz31_0
       try clear hcz31_1
       try clear hcz31_2
       try clear hcz33_0
       try clear hcz33_1
       try clear hcz33_2
       try clear hcz42_0
       try clear hcz42_1
       try clear hcz42_2
       try clear hcz42_3
       try clear hcz45_0
       try clear hcz45_1
       try clear hcz45_2
       try clear hcz45_3
       try clear hcz48_0
       try clear hcz48_1
       try clear hcz48_2
       try clear hcz48_3
       try clear hcz6_0
       try clear hcz6_1
       try clear hcz6_2
       try clear hcz7_0
       try clear hcz7_1
       try clear hcz7_2
       try clear hfz14_0
       try clear hfz14_1
       try clear hfz14_2
       try clear hfz19_0
       try clear hfz19_1
       try clear hfz19_2
       try clear hfz19_3
       try clear hfz24_0
       try clear hfz24_1
       try clear hfz24_2
       try clear hfz24_3
       try clear hfz27_0
       try clear hfz27_1
       try clear hfz27_2
       try clear hfz27_3
       try clear hfz31_0
       try clear hfz31_1
       try clear hfz31_2
       try clear hfz33_0
       try clear hfz33_1
       try clear hfz33_2
       try clear hfz42_0
       try clear hfz42_1
       try clear hfz42_2
       try clear hfz42_3
       try clear hfz45_0
       try clear hfz45_1
       try clear hfz45_2
       try clear hfz45_3
       try clear hfz48_0
       try clear hfz48_1
       try clear hfz48_2
       try clear hfz48_3
       try clear hfz6_0
       try clear hfz6_1
       try clear hfz6_2
       try clear hfz7_0
       try clear hfz7_1
       try clear hfz7_2
       try clear hx390_0
       try clear hx390_1
       try clear hx390_2
       try clear hx390_3
       try clear hx391_0
       try clear hx391_1
       try clear hx391_2
       try clear hx391_3
       try clear hx392_0
       try clear hx392_1
       try clear hx392_2
       try clear hx392_3
       try clear p2
       try clear p390
       try clear p391
       try clear p392
       try clear q390
       try clear q391
       try clear q392
       obtain ⟨kq, x52_33, rfl, HA, HJ33, HO_390003, BK380, BK381, BK389, HB⟩ := hcut
       cases kq with
       | zero => exact absurd HA.out (by simp [precinctref18_Get.j1])
       | succ kj33 =>
        have H := HA.out
        clear HA
        simp only [precinctref18_Get.j1] at H
        by_cases c49 : x52_33 = true
        ·subst c49
         have H1 : (some ((⟨#[]⟩ : ByteArray), 0, ([] : List (S57)), 4)) = some (r1, r2, r3, r4) := by rw [if_pos rfl] at H; exact H
         clear H
         have H := H1
         clear H1
         simp only [Option.some.injEq, Prod.mk.injEq] at H
         obtain ⟨rfl, rfl, rfl, rfl⟩ := H
         have hnb50 := NB381_380.out
         have hnc50 := NB380_381.out
         have hnb51 := NB381_389.out
         have hnc51 := NB389_381.out
         have hcz52_0 : wc.cell? ⟨gb381, 0, none⟩ = some (.string (⟨#[]⟩ : ByteArray)) := (blk_cell BK381.out 0).trans rfl
         have hcz52_1 : wc.cell? ⟨gb381, 1, none⟩ = some (.int .i64 0) := (blk_cell BK381.out 1).trans rfl
         have hcz52_2 : wc.cell? ⟨gb381, 2, none⟩ = some (.slice none 0 0) := (blk_cell BK381.out 2).trans rfl
         have hfz52_0 := blk_frozen BK381.out 0
         have hfz52_1 := blk_frozen BK381.out 1
         have hfz52_2 := blk_frozen BK381.out 2
         have hnb53 := NB380_389.out
         have hnc53 := NB389_380.out
         have hcz54_0 : wc.cell? ⟨gb380, 0, none⟩ = some (.string (⟨#[]⟩ : ByteArray)) := (blk_cell BK380.out 0).trans rfl
         have hcz54_1 : wc.cell? ⟨gb380, 1, none⟩ = some (.int .i64 0) := (blk_cell BK380.out 1).trans rfl
         have hcz54_2 : wc.cell? ⟨gb380, 2, none⟩ = some (.slice none 0 0) := (blk_cell BK380.out 2).trans rfl
         have hfz54_0 := blk_frozen BK380.out 0
         have hfz54_1 := blk_frozen BK380.out 1
         have hfz54_2 := blk_frozen BK380.out 2
         go_wp2
         refine bodyPost_ret (results_ct rfl _ _ gb380 79 #[.string (⟨#[]⟩ : ByteArray), .int .i64 0, .slice none 0 0] (0, 0) _ rfl (rb (blk_put (cs := #[.string (⟨#[]⟩ : ByteArray), .int .i64 0, .slice none 0 0]) (rb (blk_put (cs := #[.string (⟨#[]⟩ : ByteArray), .int .i64 0, .slice none 0 0]) (rb (blk_put (cs := #[.string (⟨#[]⟩ : ByteArray), .int .i64 0, .slice none 0 0]) (rb BK380.out) 0 _ rfl)) 1 _ rfl)) 2 _ rfl)) Try.underlying79 rfl (by kernel_rfl)) rfl ?_
         exact ⟨_, by first | rfl | (simp [errW_none, errW_some] <;> rfl) | (simp [*, errW_none, errW_some] <;> rfl), kn, bb⟩
        ·replace c49 := Bool.eq_false_iff.mpr c49
         subst c49
         have H1 : (if 1 < (t385.length : Int) then (if ((rd_T57 t385 1).f1) < 0 then (some ((⟨#[]⟩ : ByteArray), 0, ([] : List (S57)), 4)) else (if ((rd_T57 t385 1).f1) ≥ 10 then (some ((⟨#[]⟩ : ByteArray), 0, ([] : List (S57)), 4)) else (if 0 < (t385.length : Int) then (if 2 < (t385.length : Int) then (some ((rd_T57 t385 0).f2, (rd_T57 t385 1).f1, (rd_T57 t385 2).f3, 0)) else (none)) else (none)))) else (none)) = some (r1, r2, r3, r4) := by rw [if_neg (show ¬ (false = true) by decide)] at H; exact H
         clear H
         have H := H1
         clear H1
         by_cases c55 : 1 < (t385.length : Int)
         ·rw [if_pos c55] at H
          have c55b0 : decide (1 < (t385.length : Int)) = true := decide_eq_true c55
          have c55b1 : decide (1 < t385.length) = true := decide_eq_true (by omega)
          clear c55
          by_cases c56 : ((rd_T57 t385 1).f1) < 0
          ·rw [if_pos c56] at H
           have c56b0 : decide (((rd_T57 t385 1).f1) < 0) = true := decide_eq_true c56
           clear c56
           simp only [Option.some.injEq, Prod.mk.injEq] at H
           obtain ⟨rfl, rfl, rfl, rfl⟩ := H
           have hnb57 := NB389_380.out
           have hnc57 := NB380_389.out
           have hnb58 := NB389_381.out
           have hnc58 := NB381_389.out
           have hcz59_0 : wc.cell? ⟨gb389, 0, none⟩ = some (.int .i64 t382) := (blk_cell BK389.out 0).trans rfl
           have hcz59_1 : wc.cell? ⟨gb389, 1, none⟩ = some (.int .i64 t383) := (blk_cell BK389.out 1).trans rfl
           have hcz59_2 : wc.cell? ⟨gb389, 2, none⟩ = some (.string t384) := (blk_cell BK389.out 2).trans rfl
           have hcz59_3 : wc.cell? ⟨gb389, 3, none⟩ = some (.slice Ao20 t385.length co20) := (blk_cell BK389.out 3).trans rfl
           have hfz59_0 := blk_frozen BK389.out 0
           have hfz59_1 := blk_frozen BK389.out 1
           have hfz59_2 := blk_frozen BK389.out 2
           have hfz59_3 := blk_frozen BK389.out 3
           have p393 : 0 ≤ (1 : Int) := (by omega)
           have q393 : 1 < (t385.length : Int) := of_decide_eq_true (by first | (with_reducible assumption) | assumption)
           obtain ⟨ad393, A393_3, c393_3, e393, hx393_0, hx393_1, hx393_2, hx393_3, hl393_3, hi393_3⟩ := at_T57 (Kd.R_reads' HO_390003.out).2.2 1 p393 q393
           cases e393
           obtain ⟨ce393, hce393, hMe393, hcc393⟩ := Kd.R_get HO_390003.out z57 1 p393 (by first | exact q393 | exact of_decide_eq_true (by first | (with_reducible assumption) | assumption) | (have e_ := (Kd.R_reads' HO_390003.out).1; omega))
           obtain ⟨ve393_3, rfl, ge393_3⟩ := k57_openM hMe393
           have hv393_3 := hcc393 3 _ rfl
           rw [add_field _ _ 3 (by omega)] at hv393_3
           replace hv393_3 := Option.some.inj (hv393_3.symm.trans hx393_3)
           rw [hv393_3] at ge393_3
           have HL393_3 := Aside0.mk (show Kd.R k57 57 _ _ _ _ ((rd_T57 t385 1).f3) from ge393_3)
           clear hv393_3 ge393_3
           clear hcc393 hce393
           (try simp only [show (1 : Int).toNat = 1 from rfl, Nat.reduceMul, Nat.reduceEqDiff, Go.Addr.add, ↓reduceIte] at hx393_0 hx393_1 hx393_2 hx393_3)
           have qi393 : (1 < t385.length) = True := eq_true (by omega)
           (try rw [show ((1 : Int)).toNat = 1 from rfl] at hx393_0)
           (try rw [show 1 * 4 = 4 from rfl] at hx393_0)
           (try rw [show ((1 : Int)).toNat = 1 from rfl] at hx393_1)
           (try rw [show 1 * 4 = 4 from rfl] at hx393_1)
           (try rw [show ((1 : Int)).toNat = 1 from rfl] at hx393_2)
           (try rw [show 1 * 4 = 4 from rfl] at hx393_2)
           (try rw [show ((1 : Int)).toNat = 1 from rfl] at hx393_3)
           (try rw [show 1 * 4 = 4 from rfl] at hx393_3)
           have HR393_3 := Aside0.mk hi393_3
           have HC393_3 := Aside0.mk hl393_3
           clear hi393_3 hl393_3
           replace p393 := eq_true p393
           replace q393 := eq_true q393
           have hnb60 := NB381_380.out
           have hnc60 := NB380_381.out
           have hcz61_0 : wc.cell? ⟨gb381, 0, none⟩ = some (.string (⟨#[]⟩ : ByteArray)) := (blk_cell BK381.out 0).trans rfl
           have hcz61_1 : wc.cell? ⟨gb381, 1, none⟩ = some (.int .i64 0) := (blk_cell BK381.out 1).trans rfl
           have hcz61_2 : wc.cell? ⟨gb381, 2, none⟩ = some (.slice none 0 0) := (blk_cell BK381.out 2).trans rfl
           have hfz61_0 := blk_frozen BK381.out 0
           have hfz61_1 := blk_frozen BK381.out 1
           have hfz61_2 := blk_frozen BK381.out 2
           have hcz62_0 : wc.cell? ⟨gb380, 0, none⟩ = some (.string (⟨#[]⟩ : ByteArray)) := (blk_cell BK380.out 0).trans rfl
           have hcz62_1 : wc.cell? ⟨gb380, 1, none⟩ = some (.int .i64 0) := (blk_cell BK380.out 1).trans rfl
           have hcz62_2 : wc.cell? ⟨gb380, 2, none⟩ = some (.slice none 0 0) := (blk_cell BK380.out 2).trans rfl
           have hfz62_0 := blk_frozen BK380.out 0
           have hfz62_1 := blk_frozen BK380.out 1
           have hfz62_2 := blk_frozen BK380.out 2
           go_wp2
           refine bodyPost_ret (results_ct rfl _ _ gb380 79 #[.string (⟨#[]⟩ : ByteArray), .int .i64 0, .slice none 0 0] (0, 0) _ rfl (rb (blk_put (cs := #[.string (⟨#[]⟩ : ByteArray), .int .i64 0, .slice none 0 0]) (rb (blk_put (cs := #[.string (⟨#[]⟩ : ByteArray), .int .i64 0, .slice none 0 0]) (rb (blk_put (cs := #[.string (⟨#[]⟩ : ByteArray), .int .i64 0, .slice none 0 0]) (rb BK380.out) 0 _ rfl)) 1 _ rfl)) 2 _ rfl)) Try.underlying79 rfl (by kernel_rfl)) rfl ?_
           exact ⟨_, by first | rfl | (simp [errW_none, errW_some] <;> rfl) | (simp [*, errW_none, errW_some] <;> rfl), kn, bb⟩
          ·rw [if_neg c56] at H
           have c56b0 : decide (((rd_T57 t385 1).f1) < 0) = false := decide_eq_false c56
           clear c56
           by_cases c63 : ((rd_T57 t385 1).f1) ≥ 10
           ·rw [if_pos c63] at H
            have c63b0 : decide (10 ≤ ((rd_T57 t385 1).f1)) = true := decide_eq_true c63
            clear c63
            simp only [Option.some.injEq, Prod.mk.injEq] at H
            obtain ⟨rfl, rfl, rfl, rfl⟩ := H
            have hnb64 := NB389_380.out
            have hnc64 := NB380_389.out
            have hnb65 := NB389_381.out
            have hnc65 := NB381_389.out
            have hcz66_0 : wc.cell? ⟨gb389, 0, none⟩ = some (.int .i64 t382) := (blk_cell BK389.out 0).trans rfl
            have hcz66_1 : wc.cell? ⟨gb389, 1, none⟩ = some (.int .i64 t383) := (blk_cell BK389.out 1).trans rfl
            have hcz66_2 : wc.cell? ⟨gb389, 2, none⟩ = some (.string t384) := (blk_cell BK389.out 2).trans rfl
            have hcz66_3 : wc.cell? ⟨gb389, 3, none⟩ = some (.slice Ao20 t385.length co20) := (blk_cell BK389.out 3).trans rfl
            have hfz66_0 := blk_frozen BK389.out 0
            have hfz66_1 := blk_frozen BK389.out 1
            have hfz66_2 := blk_frozen BK389.out 2
            have hfz66_3 := blk_frozen BK389.out 3
            have p393 : 0 ≤ (1 : Int) := (by omega)
            have q393 : 1 < (t385.length : Int) := of_decide_eq_true (by first | (with_reducible assumption) | assumption)
            obtain ⟨ad393, A393_3, c393_3, e393, hx393_0, hx393_1, hx393_2, hx393_3, hl393_3, hi393_3⟩ := at_T57 (Kd.R_reads' HO_390003.out).2.2 1 p393 q393
            cases e393
            obtain ⟨ce393, hce393, hMe393, hcc393⟩ := Kd.R_get HO_390003.out z57 1 p393 (by first | exact q393 | exact of_decide_eq_true (by first | (with_reducible assumption) | assumption) | (have e_ := (Kd.R_reads' HO_390003.out).1; omega))
            obtain ⟨ve393_3, rfl, ge393_3⟩ := k57_openM hMe393
            have hv393_3 := hcc393 3 _ rfl
            rw [add_field _ _ 3 (by omega)] at hv393_3
            replace hv393_3 := Option.some.inj (hv393_3.symm.trans hx393_3)
            rw [hv393_3] at ge393_3
            have HL393_3 := Aside0.mk (show Kd.R k57 57 _ _ _ _ ((rd_T57 t385 1).f3) from ge393_3)
            clear hv393_3 ge393_3
            clear hcc393 hce393
            (try simp only [show (1 : Int).toNat = 1 from rfl, Nat.reduceMul, Nat.reduceEqDiff, Go.Addr.add, ↓reduceIte] at hx393_0 hx393_1 hx393_2 hx393_3)
            have qi393 : (1 < t385.length) = True := eq_true (by omega)
            (try rw [show ((1 : Int)).toNat = 1 from rfl] at hx393_0)
            (try rw [show 1 * 4 = 4 from rfl] at hx393_0)
            (try rw [show ((1 : Int)).toNat = 1 from rfl] at hx393_1)
            (try rw [show 1 * 4 = 4 from rfl] at hx393_1)
            (try rw [show ((1 : Int)).toNat = 1 from rfl] at hx393_2)
            (try rw [show 1 * 4 = 4 from rfl] at hx393_2)
            (try rw [show ((1 : Int)).toNat = 1 from rfl] at hx393_3)
            (try rw [show 1 * 4 = 4 from rfl] at hx393_3)
            have HR393_3 := Aside0.mk hi393_3
            have HC393_3 := Aside0.mk hl393_3
            clear hi393_3 hl393_3
            replace p393 := eq_true p393
            replace q393 := eq_true q393
            have p394 : 0 ≤ (1 : Int) := (by omega)
            have q394 : 1 < (t385.length : Int) := of_decide_eq_true (by first | (with_reducible assumption) | assumption)
            obtain ⟨ad394, A394_3, c394_3, e394, hx394_0, hx394_1, hx394_2, hx394_3, hl394_3, hi394_3⟩ := at_T57 (Kd.R_reads' HO_390003.out).2.2 1 p394 q394
            obtain rfl : ad393 = ad394 := (by injection e394)
            obtain ⟨ce394, hce394, hMe394, hcc394⟩ := Kd.R_get HO_390003.out z57 1 p394 (by first | exact q394 | exact of_decide_eq_true (by first | (with_reducible assumption) | assumption) | (have e_ := (Kd.R_reads' HO_390003.out).1; omega))
            obtain ⟨ve394_3, rfl, ge394_3⟩ := k57_openM hMe394
            have hv394_3 := hcc394 3 _ rfl
            rw [add_field _ _ 3 (by omega)] at hv394_3
            replace hv394_3 := Option.some.inj (hv394_3.symm.trans hx394_3)
            rw [hv394_3] at ge394_3
            have HL394_3 := Aside0.mk (show Kd.R k57 57 _ _ _ _ ((rd_T57 t385 1).f3) from ge394_3)
            clear hv394_3 ge394_3
            clear hcc394 hce394
            (try simp only [show (1 : Int).toNat = 1 from rfl, Nat.reduceMul, Nat.reduceEqDiff, Go.Addr.add, ↓reduceIte] at hx394_0 hx394_1 hx394_2 hx394_3)
            have qi394 : (1 < t385.length) = True := eq_true (by omega)
            (try rw [show ((1 : Int)).toNat = 1 from rfl] at hx394_0)
            (try rw [show 1 * 4 = 4 from rfl] at hx394_0)
            (try rw [show ((1 : Int)).toNat = 1 from rfl] at hx394_1)
            (try rw [show 1 * 4 = 4 from rfl] at hx394_1)
            (try rw [show ((1 : Int)).toNat = 1 from rfl] at hx394_2)
            (try rw [show 1 * 4 = 4 from rfl] at hx394_2)
            (try rw [show ((1 : Int)).toNat = 1 from rfl] at hx394_3)
            (try rw [show 1 * 4 = 4 from rfl] at hx394_3)
            have HR394_3 := Aside0.mk hi394_3
            have HC394_3 := Aside0.mk hl394_3
            clear hi394_3 hl394_3
            replace p394 := eq_true p394
            replace q394 := eq_true q394
            have ea_ := Option.some.inj (hx393_3.symm.trans hx394_3)
            injection ea_ with ea_ en_ ec_
            subst ea_
            subst ec_
            clear en_
            have hnb67 := NB381_380.out
            have hnc67 := NB380_381.out
            have hcz68_0 : wc.cell? ⟨gb381, 0, none⟩ = some (.string (⟨#[]⟩ : ByteArray)) := (blk_cell BK381.out 0).trans rfl
            have hcz68_1 : wc.cell? ⟨gb381, 1, none⟩ = some (.int .i64 0) := (blk_cell BK381.out 1).trans rfl
            have hcz68_2 : wc.cell? ⟨gb381, 2, none⟩ = some (.slice none 0 0) := (blk_cell BK381.out 2).trans rfl
            have hfz68_0 := blk_frozen BK381.out 0
            have hfz68_1 := blk_frozen BK381.out 1
            have hfz68_2 := blk_frozen BK381.out 2
            have hcz69_0 : wc.cell? ⟨gb380, 0, none⟩ = some (.string (⟨#[]⟩ : ByteArray)) := (blk_cell BK380.out 0).trans rfl
            have hcz69_1 : wc.cell? ⟨gb380, 1, none⟩ = some (.int .i64 0) := (blk_cell BK380.out 1).trans rfl
            have hcz69_2 : wc.cell? ⟨gb380, 2, none⟩ = some (.slice none 0 0) := (blk_cell BK380.out 2).trans rfl
            have hfz69_0 := blk_frozen BK380.out 0
            have hfz69_1 := blk_frozen BK380.out 1
            have hfz69_2 := blk_frozen BK380.out 2
            go_wp2
            refine bodyPost_ret (results_ct rfl _ _ gb380 79 #[.string (⟨#[]⟩ : ByteArray), .int .i64 0, .slice none 0 0] (0, 0) _ rfl (rb (blk_put (cs := #[.string (⟨#[]⟩ : ByteArray), .int .i64 0, .slice none 0 0]) (rb (blk_put (cs := #[.string (⟨#[]⟩ : ByteArray), .int .i64 0, .slice none 0 0]) (rb (blk_put (cs := #[.string (⟨#[]⟩ : ByteArray), .int .i64 0, .slice none 0 0]) (rb BK380.out) 0 _ rfl)) 1 _ rfl)) 2 _ rfl)) Try.underlying79 rfl (by kernel_rfl)) rfl ?_
            exact ⟨_, by first | rfl | (simp [errW_none, errW_some] <;> rfl) | (simp [*, errW_none, errW_some] <;> rfl), kn, bb⟩
           ·rw [if_neg c63] at H
            have c63b0 : decide (10 ≤ ((rd_T57 t385 1).f1)) = false := decide_eq_false c63
            clear c63
            by_cases c70 : 0 < (t385.length : Int)
            ·rw [if_pos c70] at H
             have c70b0 : decide (0 < (t385.length : Int)) = true := decide_eq_true c70
             have c70b1 : decide (0 < t385.length) = true := decide_eq_true (by omega)
             clear c70
             by_cases c71 : 2 < (t385.length : Int)
             ·rw [if_pos c71] at H
              have c71b0 : decide (2 < (t385.length : Int)) = true := decide_eq_true c71
              have c71b1 : decide (2 < t385.length) = true := decide_eq_true (by omega)
              clear c71
              simp only [Option.some.injEq, Prod.mk.injEq] at H
              obtain ⟨rfl, rfl, rfl, rfl⟩ := H
              have hnb72 := NB389_380.out
              have hnc72 := NB380_389.out
              have hnb73 := NB389_381.out
              have hnc73 := NB381_389.out
              have hcz74_0 : wc.cell? ⟨gb389, 0, none⟩ = some (.int .i64 t382) := (blk_cell BK389.out 0).trans rfl
              have hcz74_1 : wc.cell? ⟨gb389, 1, none⟩ = some (.int .i64 t383) := (blk_cell BK389.out 1).trans rfl
              have hcz74_2 : wc.cell? ⟨gb389, 2, none⟩ = some (.string t384) := (blk_cell BK389.out 2).trans rfl
              have hcz74_3 : wc.cell? ⟨gb389, 3, none⟩ = some (.slice Ao20 t385.length co20) := (blk_cell BK389.out 3).trans rfl
              have hfz74_0 := blk_frozen BK389.out 0
              have hfz74_1 := blk_frozen BK389.out 1
              have hfz74_2 := blk_frozen BK389.out 2
              have hfz74_3 := blk_frozen BK389.out 3
              have p393 : 0 ≤ (1 : Int) := (by omega)
              have q393 : 1 < (t385.length : Int) := of_decide_eq_true (by first | (with_reducible assumption) | assumption)
              obtain ⟨ad393, A393_3, c393_3, e393, hx393_0, hx393_1, hx393_2, hx393_3, hl393_3, hi393_3⟩ := at_T57 (Kd.R_reads' HO_390003.out).2.2 1 p393 q393
              cases e393
              obtain ⟨ce393, hce393, hMe393, hcc393⟩ := Kd.R_get HO_390003.out z57 1 p393 (by first | exact q393 | exact of_decide_eq_true (by first | (with_reducible assumption) | assumption) | (have e_ := (Kd.R_reads' HO_390003.out).1; omega))
              obtain ⟨ve393_3, rfl, ge393_3⟩ := k57_openM hMe393
              have hv393_3 := hcc393 3 _ rfl
              rw [add_field _ _ 3 (by omega)] at hv393_3
              replace hv393_3 := Option.some.inj (hv393_3.symm.trans hx393_3)
              rw [hv393_3] at ge393_3
              have HL393_3 := Aside0.mk (show Kd.R k57 57 _ _ _ _ ((rd_T57 t385 1).f3) from ge393_3)
              clear hv393_3 ge393_3
              clear hcc393 hce393
              (try simp only [show (1 : Int).toNat = 1 from rfl, Nat.reduceMul, Nat.reduceEqDiff, Go.Addr.add, ↓reduceIte] at hx393_0 hx393_1 hx393_2 hx393_3)
              have qi393 : (1 < t385.length) = True := eq_true (by omega)
              (try rw [show ((1 : Int)).toNat = 1 from rfl] at hx393_0)
              (try rw [show 1 * 4 = 4 from rfl] at hx393_0)
              (try rw [show ((1 : Int)).toNat = 1 from rfl] at hx393_1)
              (try rw [show 1 * 4 = 4 from rfl] at hx393_1)
              (try rw [show ((1 : Int)).toNat = 1 from rfl] at hx393_2)
              (try rw [show 1 * 4 = 4 from rfl] at hx393_2)
              (try rw [show ((1 : Int)).toNat = 1 from rfl] at hx393_3)
              (try rw [show 1 * 4 = 4 from rfl] at hx393_3)
              have HR393_3 := Aside0.mk hi393_3
              have HC393_3 := Aside0.mk hl393_3
              clear hi393_3 hl393_3
              replace p393 := eq_true p393
              replace q393 := eq_true q393
              have p394 : 0 ≤ (1 : Int) := (by omega)
              have q394 : 1 < (t385.length : Int) := of_decide_eq_true (by first | (with_reducible assumption) | assumption)
              obtain ⟨ad394, A394_3, c394_3, e394, hx394_0, hx394_1, hx394_2, hx394_3, hl394_3, hi394_3⟩ := at_T57 (Kd.R_reads' HO_390003.out).2.2 1 p394 q394
              obtain rfl : ad393 = ad394 := (by injection e394)
              obtain ⟨ce394, hce394, hMe394, hcc394⟩ := Kd.R_get HO_390003.out z57 1 p394 (by first | exact q394 | exact of_decide_eq_true (by first | (with_reducible assumption) | assumption) | (have e_ := (Kd.R_reads' HO_390003.out).1; omega))
              obtain ⟨ve394_3, rfl, ge394_3⟩ := k57_openM hMe394
              have hv394_3 := hcc394 3 _ rfl
              rw [add_field _ _ 3 (by omega)] at hv394_3
              replace hv394_3 := Option.some.inj (hv394_3.symm.trans hx394_3)
              rw [hv394_3] at ge394_3
              have HL394_3 := Aside0.mk (show Kd.R k57 57 _ _ _ _ ((rd_T57 t385 1).f3) from ge394_3)
              clear hv394_3 ge394_3
              clear hcc394 hce394
              (try simp only [show (1 : Int).toNat = 1 from rfl, Nat.reduceMul, Nat.reduceEqDiff, Go.Addr.add, ↓reduceIte] at hx394_0 hx394_1 hx394_2 hx394_3)
              have qi394 : (1 < t385.length) = True := eq_true (by omega)
              (try rw [show ((1 : Int)).toNat = 1 from rfl] at hx394_0)
              (try rw [show 1 * 4 = 4 from rfl] at hx394_0)
              (try rw [show ((1 : Int)).toNat = 1 from rfl] at hx394_1)
              (try rw [show 1 * 4 = 4 from rfl] at hx394_1)
              (try rw [show ((1 : Int)).toNat = 1 from rfl] at hx394_2)
              (try rw [show 1 * 4 = 4 from rfl] at hx394_2)
              (try rw [show ((1 : Int)).toNat = 1 from rfl] at hx394_3)
              (try rw [show 1 * 4 = 4 from rfl] at hx394_3)
              have HR394_3 := Aside0.mk hi394_3
              have HC394_3 := Aside0.mk hl394_3
              clear hi394_3 hl394_3
              replace p394 := eq_true p394
              replace q394 := eq_true q394
              have ea_ := Option.some.inj (hx393_3.symm.trans hx394_3)
              injection ea_ with ea_ en_ ec_
              subst ea_
              subst ec_
              clear en_
              try go_wp2
              have n0_ := Aside0.mk (Kd.R_drew HO_390003.out)
              have n1_ := Aside0.mk (Kd.R_drew HL393_3.out)
              have n2_ := Aside0.mk (Kd.R_drew HL394_3.out)
              have n3_ := Aside0.mk (blk_drew BK380.out)
              have n4_ := Aside0.mk (blk_drew BK381.out)
              have n5_ := Aside0.mk (blk_drew BK389.out)
              have n6_ := Aside0.mk (Kd.C_drew HR393_3.out)
              have n7_ := Aside0.mk (Kd.C_drew HR394_3.out)
              have n8_ := Aside0.mk (below_drew1 HB.out)
              clear HO_390003
              clear HL393_3
              clear HL394_3
              clear BK380
              clear BK381
              clear BK389
              clear HR393_3
              clear HR394_3
              clear HB
              have HO_390003 := n0_
              have HL393_3 := n1_
              have HL394_3 := n2_
              have BK380 := n3_
              have BK381 := n4_
              have BK389 := n5_
              have HR393_3 := n6_
              have HR394_3 := n7_
              have HB := n8_
              clear n0_ n1_ n2_ n3_ n4_ n5_ n6_ n7_ n8_
              have p395 : 0 ≤ (0 : Int) := (by omega)
              have q395 : 0 < (t385.length : Int) := of_decide_eq_true (by first | (with_reducible assumption) | assumption)
              obtain ⟨ad395, A395_3, c395_3, e395, hx395_0, hx395_1, hx395_2, hx395_3, hl395_3, hi395_3⟩ := at_T57 (Kd.R_reads' HO_390003.out).2.2 0 p395 q395
              obtain rfl : ad393 = ad395 := (by injection e395)
              obtain ⟨ce395, hce395, hMe395, hcc395⟩ := Kd.R_get HO_390003.out z57 0 p395 (by first | exact q395 | exact of_decide_eq_true (by first | (with_reducible assumption) | assumption) | (have e_ := (Kd.R_reads' HO_390003.out).1; omega))
              obtain ⟨ve395_3, rfl, ge395_3⟩ := k57_openM hMe395
              have hv395_3 := hcc395 3 _ rfl
              rw [add_field _ _ 3 (by omega)] at hv395_3
              replace hv395_3 := Option.some.inj (hv395_3.symm.trans hx395_3)
              rw [hv395_3] at ge395_3
              have HL395_3 := Aside0.mk (show Kd.R k57 57 _ _ _ _ ((rd_T57 t385 0).f3) from ge395_3)
              clear hv395_3 ge395_3
              clear hcc395 hce395
              have qi395 : (0 < t385.length) = True := eq_true (by omega)
              (try rw [show ((0 : Int)).toNat = 0 from rfl] at hx395_0)
              (try rw [show 0 * 4 = 0 from rfl] at hx395_0)
              (try rw [Addr.add_zero'] at hx395_0)
              (try rw [show ((0 : Int)).toNat = 0 from rfl] at hx395_1)
              (try rw [show 0 * 4 = 0 from rfl] at hx395_1)
              (try rw [Addr.add_zero'] at hx395_1)
              (try rw [show ((0 : Int)).toNat = 0 from rfl] at hx395_2)
              (try rw [show 0 * 4 = 0 from rfl] at hx395_2)
              (try rw [Addr.add_zero'] at hx395_2)
              (try rw [show ((0 : Int)).toNat = 0 from rfl] at hx395_3)
              (try rw [show 0 * 4 = 0 from rfl] at hx395_3)
              (try rw [Addr.add_zero'] at hx395_3)
              have HR395_3 := Aside0.mk hi395_3
              have HC395_3 := Aside0.mk hl395_3
              clear hi395_3 hl395_3
              replace p395 := eq_true p395
              replace q395 := eq_true q395
              have p396 : 0 ≤ (1 : Int) := (by omega)
              have q396 : 1 < (t385.length : Int) := of_decide_eq_true (by first | (with_reducible assumption) | assumption)
              obtain ⟨ad396, A396_3, c396_3, e396, hx396_0, hx396_1, hx396_2, hx396_3, hl396_3, hi396_3⟩ := at_T57 (Kd.R_reads' HO_390003.out).2.2 1 p396 q396
              obtain rfl : ad393 = ad396 := (by injection e396)
              obtain ⟨ce396, hce396, hMe396, hcc396⟩ := Kd.R_get HO_390003.out z57 1 p396 (by first | exact q396 | exact of_decide_eq_true (by first | (with_reducible assumption) | assumption) | (have e_ := (Kd.R_reads' HO_390003.out).1; omega))
              obtain ⟨ve396_3, rfl, ge396_3⟩ := k57_openM hMe396
              have hv396_3 := hcc396 3 _ rfl
              rw [add_field _ _ 3 (by omega)] at hv396_3
              replace hv396_3 := Option.some.inj (hv396_3.symm.trans hx396_3)
              rw [hv396_3] at ge396_3
              have HL396_3 := Aside0.mk (show Kd.R k57 57 _ _ _ _ ((rd_T57 t385 1).f3) from ge396_3)
              clear hv396_3 ge396_3
              clear hcc396 hce396
              (try simp only [show (1 : Int).toNat = 1 from rfl, Nat.reduceMul, Nat.reduceEqDiff, Go.Addr.add, ↓reduceIte] at hx396_0 hx396_1 hx396_2 hx396_3)
              have qi396 : (1 < t385.length) = True := eq_true (by omega)
              (try rw [show ((1 : Int)).toNat = 1 from rfl] at hx396_0)
              (try rw [show 1 * 4 = 4 from rfl] at hx396_0)
              (try rw [show ((1 : Int)).toNat = 1 from rfl] at hx396_1)
              (try rw [show 1 * 4 = 4 from rfl] at hx396_1)
              (try rw [show ((1 : Int)).toNat = 1 from rfl] at hx396_2)
              (try rw [show 1 * 4 = 4 from rfl] at hx396_2)
              (try rw [show ((1 : Int)).toNat = 1 from rfl] at hx396_3)
              (try rw [show 1 * 4 = 4 from rfl] at hx396_3)
              have HR396_3 := Aside0.mk hi396_3
              have HC396_3 := Aside0.mk hl396_3
              clear hi396_3 hl396_3
              replace p396 := eq_true p396
              replace q396 := eq_true q396
              have p397 : 0 ≤ (2 : Int) := (by omega)
              have q397 : 2 < (t385.length : Int) := of_decide_eq_true (by first | (with_reducible assumption) | assumption)
              obtain ⟨ad397, A397_3, c397_3, e397, hx397_0, hx397_1, hx397_2, hx397_3, hl397_3, hi397_3⟩ := at_T57 (Kd.R_reads' HO_390003.out).2.2 2 p397 q397
              obtain rfl : ad393 = ad397 := (by injection e397)
              obtain ⟨ce397, hce397, hMe397, hcc397⟩ := Kd.R_get HO_390003.out z57 2 p397 (by first | exact q397 | exact of_decide_eq_true (by first | (with_reducible assumption) | assumption) | (have e_ := (Kd.R_reads' HO_390003.out).1; omega))
              obtain ⟨ve397_3, rfl, ge397_3⟩ := k57_openM hMe397
              have hv397_3 := hcc397 3 _ rfl
              rw [add_field _ _ 3 (by omega)] at hv397_3
              replace hv397_3 := Option.some.inj (hv397_3.symm.trans hx397_3)
              rw [hv397_3] at ge397_3
              have HL397_3 := Aside0.mk (show Kd.R k57 57 _ _ _ _ ((rd_T57 t385 2).f3) from ge397_3)
              clear hv397_3 ge397_3
              clear hcc397 hce397
              (try simp only [show (2 : Int).toNat = 2 from rfl, Nat.reduceMul, Nat.reduceEqDiff, Go.Addr.add, ↓reduceIte] at hx397_0 hx397_1 hx397_2 hx397_3)
              have qi397 : (2 < t385.length) = True := eq_true (by omega)
              (try rw [show ((2 : Int)).toNat = 2 from rfl] at hx397_0)
              (try rw [show 2 * 4 = 8 from rfl] at hx397_0)
              (try rw [show ((2 : Int)).toNat = 2 from rfl] at hx397_1)
              (try rw [show 2 * 4 = 8 from rfl] at hx397_1)
              (try rw [show ((2 : Int)).toNat = 2 from rfl] at hx397_2)
              (try rw [show 2 * 4 = 8 from rfl] at hx397_2)
              (try rw [show ((2 : Int)).toNat = 2 from rfl] at hx397_3)
              (try rw [show 2 * 4 = 8 from rfl] at hx397_3)
              have HR397_3 := Aside0.mk hi397_3
              have HC397_3 := Aside0.mk hl397_3
              clear hi397_3 hl397_3
              replace p397 := eq_true p397
              replace q397 := eq_true q397
              refine start_ (n := 18) (S := fun w' => w'.cell? ⟨gb389, 0, none⟩ = some (.int .i64 t382) ∧ w'.cell? ⟨gb389, 1, none⟩ = some (.int .i64 t383) ∧ w'.cell? ⟨gb389, 2, none⟩ = some (.string t384) ∧ w'.cell? ⟨gb389, 3, none⟩ = some (.slice (some ad393) t385.length co20) ∧ w'.cell? ad393 = some (.int .i64 ((rd_T57 t385 0).f0)) ∧ w'.cell? ⟨ad393.block, ad393.off + 1, none⟩ = some (.int .i64 ((rd_T57 t385 0).f1)) ∧ w'.cell? ⟨ad393.block, ad393.off + 2, none⟩ = some (.string ((rd_T57 t385 0).f2)) ∧ w'.cell? ⟨ad393.block, ad393.off + 3, none⟩ = some (.slice A395_3 ((rd_T57 t385 0).f3).length c395_3) ∧ w'.cell? ⟨ad393.block, ad393.off + 4, none⟩ = some (.int .i64 ((rd_T57 t385 1).f0)) ∧ w'.cell? ⟨ad393.block, ad393.off + 4 + 1, none⟩ = some (.int .i64 ((rd_T57 t385 1).f1)) ∧ w'.cell? ⟨ad393.block, ad393.off + 4 + 2, none⟩ = some (.string ((rd_T57 t385 1).f2)) ∧ w'.cell? ⟨ad393.block, ad393.off + 4 + 3, none⟩ = some (.slice A396_3 ((rd_T57 t385 1).f3).length c396_3) ∧ w'.cell? ⟨ad393.block, ad393.off + 8, none⟩ = some (.int .i64 ((rd_T57 t385 2).f0)) ∧ w'.cell? ⟨ad393.block, ad393.off + 8 + 1, none⟩ = some (.int .i64 ((rd_T57 t385 2).f1)) ∧ w'.cell? ⟨ad393.block, ad393.off + 8 + 2, none⟩ = some (.string ((rd_T57 t385 2).f2)) ∧ w'.cell? ⟨ad393.block, ad393.off + 8 + 3, none⟩ = some (.slice A397_3 ((rd_T57 t385 2).f3).length c397_3)) (ds := []) #[false, false, false, false, false, false, false, false, false, false, false, false, false, false, false, false, false, false] (by kernel_rfl) rfl rfl ⟨(blk_cell BK389.out 0).trans rfl, (blk_cell BK389.out 1).trans rfl, (blk_cell BK389.out 2).trans rfl, (blk_cell BK389.out 3).trans rfl, hx395_0, hx395_1, hx395_2, hx395_3, hx396_0, hx396_1, hx396_2, hx396_3, hx397_0, hx397_1, hx397_2, hx397_3⟩ (fun hHeld => ?_); refine with_tabW precinctref18_Get.tab13 precinctref18_Get.bits13 (fun HT_ HW_ => ?_)
              generalize wc.drew = w75 at HO_390003 HL393_3 HL394_3 BK380 BK381 BK389 HR393_3 HR394_3 HB HL395_3 HL396_3 HL397_3 HR395_3 HR396_3 HR397_3 hx395_0 hx395_1 hx395_2 hx395_3 hx396_0 hx396_1 hx396_2 hx396_3 hx397_0 hx397_1 hx397_2 hx397_3 hHeld ⊢
              refine pure_ (i := 0) (N := some 69) (v := ?_) (a' := ?_) #[true, false, false, false, false, false, false, false, false, false, false, false, false, false, false, false, false, false] rfl rfl (any_of HT_.out (by kernel_rfl)) (fun _ _ _ h => h) (Or.inl ⟨by rfl, ?_⟩) ?_ ?_
              rotate_left
              ·intro w'
               go_simp
               with_reducible rfl
              rotate_left
              ·simp only [Act.put, List.setIfInBounds_toArray, List.set_cons_zero, List.set_cons_succ, i64_w, i32_w]
               rfl
              refine pure_ (i := 5) (N := some 74) (v := ?_) (a' := ?_) #[true, false, false, false, false, true, false, false, false, false, false, false, false, false, false, false, false, false] rfl rfl (any_of HT_.out (by kernel_rfl)) (fun _ _ _ h => h) (Or.inl ⟨by rfl, ?_⟩) ?_ ?_
              rotate_left
              ·intro w'
               go_simp
               with_reducible rfl
              rotate_left
              ·simp only [Act.put, List.setIfInBounds_toArray, List.set_cons_zero, List.set_cons_succ, i64_w, i32_w]
               rfl
              refine pure_ (i := 10) (N := some 79) (v := ?_) (a' := ?_) #[true, false, false, false, false, true, false, false, false, false, true, false, false, false, false, false, false, false] rfl rfl (any_of HT_.out (by kernel_rfl)) (fun _ _ _ h => h) (Or.inl ⟨by rfl, ?_⟩) ?_ ?_
              rotate_left
              ·intro w'
               go_simp
               with_reducible rfl
              rotate_left
              ·simp only [Act.put, List.setIfInBounds_toArray, List.set_cons_zero, List.set_cons_succ, i64_w, i32_w]
               rfl
              refine take_ (i := 1) (N := some 70) (v := ?_) (a' := ?_) #[true, true, false, false, false, true, false, false, false, false, true, false, false, false, false, false, false, false] rfl rfl (take_ofW HT_.out HW_.out (by kernel_rfl)) (fun _ _ _ h => h) (Or.inl ⟨by rfl, ?_⟩) hHeld ?_ ?_
              rotate_left
              ·rintro w' ⟨s0, s1, s2, s3, s4, s5, s6, s7, s8, s9, s10, s11, s12, s13, s14, s15⟩
               go_simp
               with_reducible rfl
              rotate_left
              ·simp only [Act.put, List.setIfInBounds_toArray, List.set_cons_zero, List.set_cons_succ, i64_w, i32_w]
               rfl
              refine pure_ (i := 2) (N := some 71) (v := ?_) (a' := ?_) #[true, true, true, false, false, true, false, false, false, false, true, false, false, false, false, false, false, false] rfl rfl (any_of HT_.out (by kernel_rfl)) (fun _ _ _ h => h) (Or.inl ⟨by rfl, ?_⟩) ?_ ?_
              rotate_left
              ·intro w'
               go_simp
               with_reducible rfl
              rotate_left
              ·simp only [Act.put, List.setIfInBounds_toArray, List.set_cons_zero, List.set_cons_succ, i64_w, i32_w]
               rfl
              refine pure_ (i := 3) (N := some 72) (v := ?_) (a' := ?_) #[true, true, true, true, false, true, false, false, false, false, true, false, false, false, false, false, false, false] rfl rfl (any_of HT_.out (by kernel_rfl)) (fun _ _ _ h => h) (Or.inl ⟨by rfl, ?_⟩) ?_ ?_
              rotate_left
              ·intro w'
               go_simp
               with_reducible rfl
              rotate_left
              ·simp only [Act.put, List.setIfInBounds_toArray, List.set_cons_zero, List.set_cons_succ, i64_w, i32_w]
               rfl
              refine take_ (i := 4) (N := some 73) (v := ?_) (a' := ?_) #[true, true, true, true, true, true, false, false, false, false, true, false, false, false, false, false, false, false] rfl rfl (take_ofW HT_.out HW_.out (by kernel_rfl)) (fun _ _ _ h => h) (Or.inl ⟨by rfl, ?_⟩) hHeld ?_ ?_
              rotate_left
              ·rintro w' ⟨s0, s1, s2, s3, s4, s5, s6, s7, s8, s9, s10, s11, s12, s13, s14, s15⟩
               go_simp
               with_reducible rfl
              rotate_left
              ·simp only [Act.put, List.setIfInBounds_toArray, List.set_cons_zero, List.set_cons_succ, i64_w, i32_w]
               rfl
              refine take_ (i := 6) (N := some 75) (v := ?_) (a' := ?_) #[true, true, true, true, true, true, true, false, false, false, true, false, false, false, false, false, false, false] rfl rfl (take_ofW HT_.out HW_.out (by kernel_rfl)) (fun _ _ _ h => h) (Or.inl ⟨by rfl, ?_⟩) hHeld ?_ ?_
              rotate_left
              ·rintro w' ⟨s0, s1, s2, s3, s4, s5, s6, s7, s8, s9, s10, s11, s12, s13, s14, s15⟩
               go_simp
               with_reducible rfl
              rotate_left
              ·simp only [Act.put, List.setIfInBounds_toArray, List.set_cons_zero, List.set_cons_succ, i64_w, i32_w]
               rfl
              refine pure_ (i := 7) (N := some 76) (v := ?_) (a' := ?_) #[true, true, true, true, true, true, true, true, false, false, true, false, false, false, false, false, false, false] rfl rfl (any_of HT_.out (by kernel_rfl)) (fun _ _ _ h => h) (Or.inl ⟨by rfl, ?_⟩) ?_ ?_
              rotate_left
              ·intro w'
               go_simp
               with_reducible rfl
              rotate_left
              ·simp only [Act.put, List.setIfInBounds_toArray, List.set_cons_zero, List.set_cons_succ, i64_w, i32_w]
               rfl
              refine pure_ (i := 8) (N := some 77) (v := ?_) (a' := ?_) #[true, true, true, true, true, true, true, true, true, false, true, false, false, false, false, false, false, false] rfl rfl (any_of HT_.out (by kernel_rfl)) (fun _ _ _ h => h) (Or.inl ⟨by rfl, ?_⟩) ?_ ?_
              rotate_left
              ·intro w'
               go_simp
               with_reducible rfl
              rotate_left
              ·simp only [Act.put, List.setIfInBounds_toArray, List.set_cons_zero, List.set_cons_succ, i64_w, i32_w]
               rfl
              refine take_ (i := 9) (N := some 78) (v := ?_) (a' := ?_) #[true, true, true, true, true, true, true, true, true, true, true, false, false, false, false, false, false, false] rfl rfl (take_ofW HT_.out HW_.out (by kernel_rfl)) (fun _ _ _ h => h) (Or.inl ⟨by rfl, ?_⟩) hHeld ?_ ?_
              rotate_left
              ·rintro w' ⟨s0, s1, s2, s3, s4, s5, s6, s7, s8, s9, s10, s11, s12, s13, s14, s15⟩
               go_simp
               with_reducible rfl
              rotate_left
              ·simp only [Act.put, List.setIfInBounds_toArray, List.set_cons_zero, List.set_cons_succ, i64_w, i32_w]
               rfl
              refine take_ (i := 11) (N := some 80) (v := ?_) (a' := ?_) #[true, true, true, true, true, true, true, true, true, true, true, true, false, false, false, false, false, false] rfl rfl (take_ofW HT_.out HW_.out (by kernel_rfl)) (fun _ _ _ h => h) (Or.inl ⟨by rfl, ?_⟩) hHeld ?_ ?_
              rotate_left
              ·rintro w' ⟨s0, s1, s2, s3, s4, s5, s6, s7, s8, s9, s10, s11, s12, s13, s14, s15⟩
               go_simp
               with_reducible rfl
              rotate_left
              ·simp only [Act.put, List.setIfInBounds_toArray, List.set_cons_zero, List.set_cons_succ, i64_w, i32_w]
               rfl
              refine pure_ (i := 12) (N := some 81) (v := ?_) (a' := ?_) #[true, true, true, true, true, true, true, true, true, true, true, true, true, false, false, false, false, false] rfl rfl (any_of HT_.out (by kernel_rfl)) (fun _ _ _ h => h) (Or.inl ⟨by rfl, ?_⟩) ?_ ?_
              rotate_left
              ·intro w'
               go_simp
               with_reducible rfl
              rotate_left
              ·simp only [Act.put, List.setIfInBounds_toArray, List.set_cons_zero, List.set_cons_succ, i64_w, i32_w]
               rfl
              refine pure_ (i := 13) (N := some 82) (v := ?_) (a' := ?_) #[true, true, true, true, true, true, true, true, true, true, true, true, true, true, false, false, false, false] rfl rfl (any_of HT_.out (by kernel_rfl)) (fun _ _ _ h => h) (Or.inl ⟨by rfl, ?_⟩) ?_ ?_
              rotate_left
              ·intro w'
               go_simp
               with_reducible rfl
              rotate_left
              ·simp only [Act.put, List.setIfInBounds_toArray, List.set_cons_zero, List.set_cons_succ, i64_w, i32_w]
               rfl
              refine take_ (i := 14) (N := some 83) (v := ?_) (a' := ?_) #[true, true, true, true, true, true, true, true, true, true, true, true, true, true, true, false, false, false] rfl rfl (take_ofW HT_.out HW_.out (by kernel_rfl)) (fun _ _ _ h => h) (Or.inl ⟨by rfl, ?_⟩) hHeld ?_ ?_
              rotate_left
              ·rintro w' ⟨s0, s1, s2, s3, s4, s5, s6, s7, s8, s9, s10, s11, s12, s13, s14, s15⟩
               go_simp
               with_reducible rfl
              rotate_left
              ·simp only [Act.put, List.setIfInBounds_toArray, List.set_cons_zero, List.set_cons_succ, i64_w, i32_w]
               rfl
              refine pure_ (i := 15) (N := some 84) (v := ?_) (a' := ?_) #[true, true, true, true, true, true, true, true, true, true, true, true, true, true, true, true, false, false] rfl rfl (any_of HT_.out (by kernel_rfl)) (fun _ _ _ h => h) (Or.inl ⟨by rfl, ?_⟩) ?_ ?_
              rotate_left
              ·intro w'
               go_simp
               with_reducible rfl
              rotate_left
              ·simp only [Act.put, List.setIfInBounds_toArray, List.set_cons_zero, List.set_cons_succ, i64_w, i32_w]
               rfl
              refine one_ (i := 16) (N := none) #[true, true, true, true, true, true, true, true, true, true, true, true, true, true, true, true, true, false] rfl rfl (one_of HT_.out (by kernel_rfl)) (by decide) (fun K hK => ?_)
              have hs76 : w75.cell? ⟨gb380, 0, none⟩ = some (.string (⟨#[]⟩ : ByteArray)) := (blk_cell BK380.out 0).trans rfl
              have hfs76 := blk_frozen BK380.out 0
              have hns76_1 := NB381_380.out
              have hns76_2 := NB389_380.out
              have hms76_1 := NB380_381.out
              have hms76_2 := NB380_389.out
              have hs77 : w75.cell? ⟨gb380, 1, none⟩ = some (.int .i64 0) := (blk_cell BK380.out 1).trans rfl
              have hfs77 := blk_frozen BK380.out 1
              have hns77_1 := NB381_380.out
              have hns77_2 := NB389_380.out
              have hms77_1 := NB380_381.out
              have hms77_2 := NB380_389.out
              have hs78 : w75.cell? ⟨gb380, 2, none⟩ = some (.slice none 0 0) := (blk_cell BK380.out 2).trans rfl
              have hfs78 := blk_frozen BK380.out 2
              have hns78_1 := NB381_380.out
              have hns78_2 := NB389_380.out
              have hms78_1 := NB380_381.out
              have hms78_2 := NB380_389.out
              refine skip_ (w1 := ?_) (by rfl) rfl ?_ ?_
              rotate_left
              ·go_simp
               rfl
              have nx_0 := Kd.own_blk (Kd.R_ne HO_390003.out BK380.out (by decide))
              refine hK.out _ _ ⟨((cell_far (p := ⟨gb380, _, none⟩) NB389_380.out _).trans (((cell_far (p := ⟨gb380, _, none⟩) NB389_380.out _).trans (((cell_far (p := ⟨gb380, _, none⟩) NB389_380.out _).trans (hHeld.1)))))), ((cell_far (p := ⟨gb380, _, none⟩) NB389_380.out _).trans (((cell_far (p := ⟨gb380, _, none⟩) NB389_380.out _).trans (((cell_far (p := ⟨gb380, _, none⟩) NB389_380.out _).trans (hHeld.2.1)))))), ((cell_far (p := ⟨gb380, _, none⟩) NB389_380.out _).trans (((cell_far (p := ⟨gb380, _, none⟩) NB389_380.out _).trans (((cell_far (p := ⟨gb380, _, none⟩) NB389_380.out _).trans (hHeld.2.2.1)))))), ((cell_far (p := ⟨gb380, _, none⟩) NB389_380.out _).trans (((cell_far (p := ⟨gb380, _, none⟩) NB389_380.out _).trans (((cell_far (p := ⟨gb380, _, none⟩) NB389_380.out _).trans (hHeld.2.2.2.1)))))), ((cell_far (p := ⟨gb380, _, none⟩) (by exact nx_0) _).trans (((cell_far (p := ⟨gb380, _, none⟩) (by exact nx_0) _).trans (((cell_far (p := ⟨gb380, _, none⟩) (by exact nx_0) _).trans (hHeld.2.2.2.2.1)))))), ((cell_far (p := ⟨gb380, _, none⟩) (by exact nx_0) _).trans (((cell_far (p := ⟨gb380, _, none⟩) (by exact nx_0) _).trans (((cell_far (p := ⟨gb380, _, none⟩) (by exact nx_0) _).trans (hHeld.2.2.2.2.2.1)))))), ((cell_far (p := ⟨gb380, _, none⟩) (by exact nx_0) _).trans (((cell_far (p := ⟨gb380, _, none⟩) (by exact nx_0) _).trans (((cell_far (p := ⟨gb380, _, none⟩) (by exact nx_0) _).trans (hHeld.2.2.2.2.2.2.1)))))), ((cell_far (p := ⟨gb380, _, none⟩) (by exact nx_0) _).trans (((cell_far (p := ⟨gb380, _, none⟩) (by exact nx_0) _).trans (((cell_far (p := ⟨gb380, _, none⟩) (by exact nx_0) _).trans (hHeld.2.2.2.2.2.2.2.1)))))), ((cell_far (p := ⟨gb380, _, none⟩) (by exact nx_0) _).trans (((cell_far (p := ⟨gb380, _, none⟩) (by exact nx_0) _).trans (((cell_far (p := ⟨gb380, _, none⟩) (by exact nx_0) _).trans (hHeld.2.2.2.2.2.2.2.2.1)))))), ((cell_far (p := ⟨gb380, _, none⟩) (by exact nx_0) _).trans (((cell_far (p := ⟨gb380, _, none⟩) (by exact nx_0) _).trans (((cell_far (p := ⟨gb380, _, none⟩) (by exact nx_0) _).trans (hHeld.2.2.2.2.2.2.2.2.2.1)))))), ((cell_far (p := ⟨gb380, _, none⟩) (by exact nx_0) _).trans (((cell_far (p := ⟨gb380, _, none⟩) (by exact nx_0) _).trans (((cell_far (p := ⟨gb380, _, none⟩) (by exact nx_0) _).trans (hHeld.2.2.2.2.2.2.2.2.2.2.1)))))), ((cell_far (p := ⟨gb380, _, none⟩) (by exact nx_0) _).trans (((cell_far (p := ⟨gb380, _, none⟩) (by exact nx_0) _).trans (((cell_far (p := ⟨gb380, _, none⟩) (by exact nx_0) _).trans (hHeld.2.2.2.2.2.2.2.2.2.2.2.1)))))), ((cell_far (p := ⟨gb380, _, none⟩) (by exact nx_0) _).trans (((cell_far (p := ⟨gb380, _, none⟩) (by exact nx_0) _).trans (((cell_far (p := ⟨gb380, _, none⟩) (by exact nx_0) _).trans (hHeld.2.2.2.2.2.2.2.2.2.2.2.2.1)))))), ((cell_far (p := ⟨gb380, _, none⟩) (by exact nx_0) _).trans (((cell_far (p := ⟨gb380, _, none⟩) (by exact nx_0) _).trans (((cell_far (p := ⟨gb380, _, none⟩) (by exact nx_0) _).trans (hHeld.2.2.2.2.2.2.2.2.2.2.2.2.2.1)))))), ((cell_far (p := ⟨gb380, _, none⟩) (by exact nx_0) _).trans (((cell_far (p := ⟨gb380, _, none⟩) (by exact nx_0) _).trans (((cell_far (p := ⟨gb380, _, none⟩) (by exact nx_0) _).trans (hHeld.2.2.2.2.2.2.2.2.2.2.2.2.2.2.1)))))), ((cell_far (p := ⟨gb380, _, none⟩) (by exact nx_0) _).trans (((cell_far (p := ⟨gb380, _, none⟩) (by exact nx_0) _).trans (((cell_far (p := ⟨gb380, _, none⟩) (by exact nx_0) _).trans (hHeld.2.2.2.2.2.2.2.2.2.2.2.2.2.2.2))))))⟩ (fun hHeld => ?_)
              clear hK K
              refine pure_ (i := 17) (N := some 3) (v := ?_) (a' := ?_) #[true, true, true, true, true, true, true, true, true, true, true, true, true, true, true, true, true, true] rfl rfl (any_of HT_.out (by kernel_rfl)) (fun _ _ _ h => h) (Or.inl ⟨by rfl, ?_⟩) ?_ ?_
              rotate_left
              ·intro w'
               go_simp
               with_reducible rfl
              rotate_left
              ·simp only [Act.put, List.setIfInBounds_toArray, List.set_cons_zero, List.set_cons_succ, i64_w, i32_w]
               rfl
              refine done_ (done_of HT_.out (by kernel_rfl)) ?_
              try go_wp2
              refine bodyPost_ret (results_ct rfl _ _ gb380 79 #[.string ((rd_T57 t385 0).f2), .int .i64 ((rd_T57 t385 1).f1), .slice A397_3 ((rd_T57 t385 2).f3).length c397_3] (0, 0) _ rfl (rb (blk_put (cs := #[.string ((rd_T57 t385 0).f2), .int .i64 ((rd_T57 t385 1).f1), .slice none 0 0]) (rb (blk_put (cs := #[.string ((rd_T57 t385 0).f2), .int .i64 0, .slice none 0 0]) (rb (blk_put (cs := #[.string (⟨#[]⟩ : ByteArray), .int .i64 0, .slice none 0 0]) (rb BK380.out) 0 _ rfl)) 1 _ rfl)) 2 _ rfl)) Try.underlying79 rfl (by kernel_rfl)) rfl ?_
              exact ⟨_, by first | rfl | (simp [errW_none, errW_some] <;> rfl) | (simp [*, errW_none, errW_some] <;> rfl), kR (Kd.R_mono (Kd.R_far (p := ⟨gb380, 2, none⟩) (Kd.R_far (p := ⟨gb380, 1, none⟩) (Kd.R_far (p := ⟨gb380, 0, none⟩) (Kd.R_types HL397_3.out BK380.out (by decide)) (fun _ hk => hk.2) (.string ((rd_T57 t385 0).f2))) (fun _ hk => hk.2) (.int .i64 ((rd_T57 t385 1).f1))) (fun _ hk => hk.2) (.slice A397_3 ((rd_T57 t385 2).f3).length c397_3)) (fun _ hk => trivial)), bb⟩
             ·rw [if_neg c71] at H
              exact absurd H (by simp)
            ·rw [if_neg c70] at H
             exact absurd H (by simp)
         ·rw [if_neg c55] at H
          exact absurd H (by simp)
  ·rw [if_neg c9] at H
   have c9b0 : (t388 == 0) = false := beq_eq_false_iff_ne.mpr c9
   have c9b1 : (t388 != 0) = true := bne_iff_ne.mpr c9
   simp only [Option.some.injEq, Prod.mk.injEq] at H
   obtain ⟨rfl, rfl, rfl, rfl⟩ := H
   go_enter Try.func35, Try.ntmps35
   go_wp2_with (first | ((with_reducible refine gate_dst (N := 2) rfl ?_); (try (refine gate_guard (by rfl) ?_; dsimp only)); refine box_event ?hg (N := 2) ?hd (cs := #[.string (⟨#[]⟩ : ByteArray), .int .i64 0, .slice none 0 0]) (t := 79) ?hr ?_; (case hd => rfl); (case hg => rfl); (case hr => first | (go_simp; done) | (go_simp; rfl)); intro gb380 hg w79 hbox hb; have n0_ := Aside0.mk (below_step bb hb); have n1_ := Aside0.mk (hbox); have n2_ := Aside0.mk ((by rw [hg]; exact (below_size bb) : w.heap.size ≤ gb380)); have n3_ := Aside0.mk ((by rw [hg]; exact (below_size bb) : w.heap.size ≤ gb380)); clear HB; have HB := n0_; have BK380 := n1_; have GW380 := n2_; have GE380 := n3_; clear n0_ n1_ n2_ n3_; clear hb hbox hg) | ((with_reducible refine gate_dst (N := 4) rfl ?_); (try (refine gate_guard (by rfl) ?_; dsimp only)); refine box_event ?hg (N := 4) ?hd (cs := #[.string (⟨#[]⟩ : ByteArray), .int .i64 0, .slice none 0 0]) (t := 79) ?hr ?_; (case hd => rfl); (case hg => rfl); (case hr => first | (go_simp; done) | (go_simp; rfl)); intro gb381 hg w80 hbox hb; have n0_ := Aside0.mk (blk_below (g := gb380) (o := .cells #[.string (⟨#[]⟩ : ByteArray), .int .i64 0, .slice none 0 0] 79 (0, 0)) (rb BK380.out) hb); have n1_ := Aside0.mk (below_step bb hb); have n2_ := Aside0.mk (hbox); have n3_ := Aside0.mk ((by rw [hg]; exact (below_size bb) : w.heap.size ≤ gb381)); have n4_ := Aside0.mk ((by rw [hg]; exact (below_size bb) : w.heap.size ≤ gb381)); have n5_ := Aside0.mk ((by rw [hg]; exact Nat.ne_of_lt (blk_lt (g := gb380) (o := .cells #[.string (⟨#[]⟩ : ByteArray), .int .i64 0, .slice none 0 0] 79 (0, 0)) (rb BK380.out)) : gb380 ≠ gb381)); have n6_ := Aside0.mk ((by rw [hg]; exact Nat.ne_of_gt (blk_lt (g := gb380) (o := .cells #[.string (⟨#[]⟩ : ByteArray), .int .i64 0, .slice none 0 0] 79 (0, 0)) (rb BK380.out)) : gb381 ≠ gb380)); clear BK380; clear HB; have BK380 := n0_; have HB := n1_; have BK381 := n2_; have GW381 := n3_; have GE381 := n4_; have NB380_381 := n5_; have NB381_380 := n6_; clear n0_ n1_ n2_ n3_ n4_ n5_ n6_; clear hb hbox hg; have hnb81 := NB381_380.out; have hnc81 := NB380_381.out; have hcz82_0 : w80.cell? ⟨gb381, 0, none⟩ = some (.string (⟨#[]⟩ : ByteArray)) := (blk_cell BK381.out 0).trans rfl; have hcz82_1 : w80.cell? ⟨gb381, 1, none⟩ = some (.int .i64 0) := (blk_cell BK381.out 1).trans rfl; have hcz82_2 : w80.cell? ⟨gb381, 2, none⟩ = some (.slice none 0 0) := (blk_cell BK381.out 2).trans rfl; have hfz82_0 := blk_frozen BK381.out 0; have hfz82_1 := blk_frozen BK381.out 1; have hfz82_2 := blk_frozen BK381.out 2) | ((with_reducible refine gate_callee (f := 76) rfl ?_); refine goesL_ (some 14) rfl rfl Try.func76 (by kernel_rfl) rfl #[.string a0] rfl ag ?_; (with_reducible refine (precinctref02_Get.calls k a0 t382 t383 t384 t385 t388 _ A8.out).mono ?_); rintro e w83 ⟨v386, rfl, ho0, hb⟩; refine ⟨_, rfl, ?_⟩; have n0_ := Aside0.mk (Kd.R_lower ho0 (below_size bb)); have n1_ := Aside0.mk (blk_below (g := gb380) (o := .cells #[.string (⟨#[]⟩ : ByteArray), .int .i64 0, .slice none 0 0] 79 (0, 0)) (rb (blk_far (rb (blk_far (rb (blk_far (rb BK380.out) NB380_381.out _)) NB380_381.out _)) NB380_381.out _)) hb); have n2_ := Aside0.mk (blk_below (g := gb381) (o := .cells #[.string (⟨#[]⟩ : ByteArray), .int .i64 0, .slice none 0 0] 79 (0, 0)) (rb (blk_put (cs := #[.string (⟨#[]⟩ : ByteArray), .int .i64 0, .slice none 0 0]) (rb (blk_put (cs := #[.string (⟨#[]⟩ : ByteArray), .int .i64 0, .slice none 0 0]) (rb (blk_put (cs := #[.string (⟨#[]⟩ : ByteArray), .int .i64 0, .slice none 0 0]) (rb BK381.out) 0 _ rfl)) 1 _ rfl)) 2 _ rfl)) hb); have n3_ := Aside0.mk (below_step bb hb); clear BK380; clear BK381; clear HB; have HO387 := n0_; have BK380 := n1_; have BK381 := n2_; have HB := n3_; clear n0_ n1_ n2_ n3_; (try clear hb); (try clear hb2); (try clear hk); (try clear hi); (try clear ho0)) | ((with_reducible refine gate_dst (N := 5) rfl ?_); (try (refine gate_guard (by rfl) ?_; dsimp only)); refine box_event ?hg (N := 5) ?hd (cs := #[.int .i64 0, .int .i64 0, .string (⟨#[]⟩ : ByteArray), .slice none 0 0]) (t := 57) ?hr ?_; (case hd => rfl); (case hg => rfl); (case hr => first | (go_simp; done) | (go_simp; rfl)); intro gb389 hg w84 hbox hb; have n0_ := Aside0.mk (Kd.R_below (Kd.R_elderB (kR HO387.out) gb389 (Nat.le_of_eq hg.symm)) hb); have n1_ := Aside0.mk (blk_below (g := gb380) (o := .cells #[.string (⟨#[]⟩ : ByteArray), .int .i64 0, .slice none 0 0] 79 (0, 0)) (rb BK380.out) hb); have n2_ := Aside0.mk (blk_below (g := gb381) (o := .cells #[.string (⟨#[]⟩ : ByteArray), .int .i64 0, .slice none 0 0] 79 (0, 0)) (rb BK381.out) hb); have n3_ := Aside0.mk (below_step bb hb); have n4_ := Aside0.mk (hbox); have n5_ := Aside0.mk ((by rw [hg]; exact (below_size bb) : w.heap.size ≤ gb389)); have n6_ := Aside0.mk ((by rw [hg]; exact (below_size bb) : w.heap.size ≤ gb389)); have n7_ := Aside0.mk ((by rw [hg]; exact Nat.ne_of_lt (blk_lt (g := gb380) (o := .cells #[.string (⟨#[]⟩ : ByteArray), .int .i64 0, .slice none 0 0] 79 (0, 0)) (rb BK380.out)) : gb380 ≠ gb389)); have n8_ := Aside0.mk ((by rw [hg]; exact Nat.ne_of_gt (blk_lt (g := gb380) (o := .cells #[.string (⟨#[]⟩ : ByteArray), .int .i64 0, .slice none 0 0] 79 (0, 0)) (rb BK380.out)) : gb389 ≠ gb380)); have n9_ := Aside0.mk ((by rw [hg]; exact Nat.ne_of_lt (blk_lt (g := gb381) (o := .cells #[.string (⟨#[]⟩ : ByteArray), .int .i64 0, .slice none 0 0] 79 (0, 0)) (rb BK381.out)) : gb381 ≠ gb389)); have n10_ := Aside0.mk ((by rw [hg]; exact Nat.ne_of_gt (blk_lt (g := gb381) (o := .cells #[.string (⟨#[]⟩ : ByteArray), .int .i64 0, .slice none 0 0] 79 (0, 0)) (rb BK381.out)) : gb389 ≠ gb381)); clear HO387; clear BK380; clear BK381; clear HB; have HO387 := n0_; have BK380 := n1_; have BK381 := n2_; have HB := n3_; have BK389 := n4_; have GW389 := n5_; have GE389 := n6_; have NB380_389 := n7_; have NB389_380 := n8_; have NB381_389 := n9_; have NB389_381 := n10_; clear n0_ n1_ n2_ n3_ n4_ n5_ n6_ n7_ n8_ n9_ n10_; clear hb hbox hg; have hnb85 := NB389_380.out; have hnc85 := NB380_389.out; have hnb86 := NB389_381.out; have hnc86 := NB381_389.out; have hcz87_0 : w84.cell? ⟨gb389, 0, none⟩ = some (.int .i64 0) := (blk_cell BK389.out 0).trans rfl; have hcz87_1 : w84.cell? ⟨gb389, 1, none⟩ = some (.int .i64 0) := (blk_cell BK389.out 1).trans rfl; have hcz87_2 : w84.cell? ⟨gb389, 2, none⟩ = some (.string (⟨#[]⟩ : ByteArray)) := (blk_cell BK389.out 2).trans rfl; have hcz87_3 : w84.cell? ⟨gb389, 3, none⟩ = some (.slice none 0 0) := (blk_cell BK389.out 3).trans rfl; have hfz87_0 := blk_frozen BK389.out 0; have hfz87_1 := blk_frozen BK389.out 1; have hfz87_2 := blk_frozen BK389.out 2; have hfz87_3 := blk_frozen BK389.out 3; obtain ⟨Ao88, co88, eo88⟩ := Kd.R_slice HO387.out; subst eo88; have hcz89_0 : w84.cell? ⟨gb381, 0, none⟩ = some (.string (⟨#[]⟩ : ByteArray)) := (blk_cell BK381.out 0).trans rfl; have hcz89_1 : w84.cell? ⟨gb381, 1, none⟩ = some (.int .i64 0) := (blk_cell BK381.out 1).trans rfl; have hcz89_2 : w84.cell? ⟨gb381, 2, none⟩ = some (.slice none 0 0) := (blk_cell BK381.out 2).trans rfl; have hfz89_0 := blk_frozen BK381.out 0; have hfz89_1 := blk_frozen BK381.out 1; have hfz89_2 := blk_frozen BK381.out 2; have hcz90_0 : w84.cell? ⟨gb380, 0, none⟩ = some (.string (⟨#[]⟩ : ByteArray)) := (blk_cell BK380.out 0).trans rfl; have hcz90_1 : w84.cell? ⟨gb380, 1, none⟩ = some (.int .i64 0) := (blk_cell BK380.out 1).trans rfl; have hcz90_2 : w84.cell? ⟨gb380, 2, none⟩ = some (.slice none 0 0) := (blk_cell BK380.out 2).trans rfl; have hfz90_0 := blk_frozen BK380.out 0; have hfz90_1 := blk_frozen BK380.out 1; have hfz90_2 := blk_frozen BK380.out 2))
   refine bodyPost_ret (results_ct rfl _ _ gb380 79 #[.string (⟨#[]⟩ : ByteArray), .int .i64 0, .slice none 0 0] (0, 0) _ rfl (rb (blk_put (cs := #[.string (⟨#[]⟩ : ByteArray), .int .i64 0, .slice none 0 0]) (rb (blk_put (cs := #[.string (⟨#[]⟩ : ByteArray), .int .i64 0, .slice none 0 0]) (rb (blk_put (cs := #[.string (⟨#[]⟩ : ByteArray), .int .i64 0, .slice none 0 0]) (rb (blk_far (rb (blk_far (rb (blk_far (rb (blk_far (rb BK380.out) NB380_389.out _)) NB380_389.out _)) NB380_389.out _)) NB380_389.out _)) 0 _ rfl)) 1 _ rfl)) 2 _ rfl)) Try.underlying79 rfl (by kernel_rfl)) rfl ?_
   exact ⟨_, by first | rfl | (simp [errW_none, errW_some] <;> rfl) | (simp [*, errW_none, errW_some] <;> rfl), kn, bb⟩

end Go.Proofs.Ytjicfkmpgogppaa.PO
