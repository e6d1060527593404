-- printed by a program of this session out of the translation; see NOTES.md
import Derived.Test.YtjicfkmpgogppaaPOx0
import Derived.Test.YtjicfkmpgogppaaPOx12
import Derived.Test.YtjicfkmpgogppaaRb
namespace Go.Proofs.Ytjicfkmpgogppaa.PO
open Go.RowKit Go.Proofs.YtjicfkmpgogppaaW.PrintWords Go.Proofs.YtjicfkmpgogppaaW.PrintLast Go.Proofs.YtjicfkmpgogppaaW.PrintMore Go.Proofs.YtjicfkmpgogppaaRb
attribute [local go_sem] max2_int min2_int max_two min_two max_three min_three max_four min_four   -- for this text's walks alone
set_option linter.unusedVariables false
set_option linter.unusedSimpArgs false

/-! ### op_Get: function 34 -/
def op_Get.j0 : Nat → Bool → Int → Int → ByteArray → List (S54) → Option (ByteArray × Int × (List (S54)) × Int)
 | 0, _, _, _, _, _ => none
 | k + 1, x20, x275000, x275001, x275002, x275003 => if x20 = true then (some ((⟨#[]⟩ : ByteArray), 0, ([] : List (S54)), 4)) else (if 1 < (x275003.length : Int) then (if ((rd_T54 x275003 1).f1) < 0 then (some ((⟨#[]⟩ : ByteArray), 0, ([] : List (S54)), 4)) else (if ((rd_T54 x275003 1).f1) ≥ 10 then (some ((⟨#[]⟩ : ByteArray), 0, ([] : List (S54)), 4)) else (if 0 < (x275003.length : Int) then (if 2 < (x275003.length : Int) then (some ((rd_T54 x275003 0).f2, (rd_T54 x275003 1).f1, (rd_T54 x275003 2).f3, 0)) else (none)) else (none)))) else (none))
def op_Get.f (k : Nat) (a0 : ByteArray) : Option (ByteArray × Int × (List (S54)) × Int) := if (a0.size : Int) > 4096 then (some ((⟨#[]⟩ : ByteArray), 0, ([] : List (S54)), 5)) else ((pack_Get.f a0).bind fun bt267 => (if bt267.2.2.2.2 = 0 then (if bt267.1 = 2 then (if (bt267.2.2.2.1.length : Int) = 3 then (if 0 < (bt267.2.2.2.1.length : Int) then (if ((rd_T54 bt267.2.2.2.1 0).f0) = 1 then (if 1 < (bt267.2.2.2.1.length : Int) then (if ((rd_T54 bt267.2.2.2.1 1).f0) = 0 then (if 2 < (bt267.2.2.2.1.length : Int) then (op_Get.j0 k (((rd_T54 bt267.2.2.2.1 2).f0) != 2) bt267.1 bt267.2.1 bt267.2.2.1 bt267.2.2.2.1) else (none)) else (op_Get.j0 k true bt267.1 bt267.2.1 bt267.2.2.1 bt267.2.2.2.1)) else (none)) else (op_Get.j0 k true bt267.1 bt267.2.1 bt267.2.2.1 bt267.2.2.2.1)) else (none)) else (op_Get.j0 k true bt267.1 bt267.2.1 bt267.2.2.1 bt267.2.2.2.1)) else (op_Get.j0 k true bt267.1 bt267.2.1 bt267.2.2.1 bt267.2.2.2.1)) else (some ((⟨#[]⟩ : ByteArray), 0, ([] : List (S54)), bt267.2.2.2.2))))
theorem op_Get.mono_l : ∀ k, (∀ y0 y1 y2 y3 y4, LeO (op_Get.j0 k y0 y1 y2 y3 y4) (op_Get.j0 (k + 1) y0 y1 y2 y3 y4))
 | 0 => fun _ _ _ _ _ r h => by simp [op_Get.j0] at h
 | k + 1 => by
  have ih0 := op_Get.mono_l k
  ·intro y0 y1 y2 y3 y4
   unfold op_Get.j0
   repeat' first
   | (with_reducible exact ih0 _ _ _ _ _)
   | (with_reducible exact LeO.refl _)
   | (with_reducible exact LeO.none _)
   | (with_reducible refine LeO.ite ?_ ?_)
   | (with_reducible refine LeO.bind ?_ (fun _ => ?_))
   | exact ih0 _ _ _ _ _
   | exact LeO.none _
   | refine LeO.ite ?_ ?_
   | refine LeO.bind ?_ (fun _ => ?_)
theorem op_Get.mono : ∀ a0 k, LeO (op_Get.f k a0) (op_Get.f (k + 1) a0) := by
 intro a0 k
 have ih0 := op_Get.mono_l k
 unfold op_Get.f
 repeat' first
   | (with_reducible exact ih0 _ _ _ _ _)
   | (with_reducible exact LeO.refl _)
   | (with_reducible exact LeO.none _)
   | (with_reducible refine LeO.ite ?_ ?_)
   | (with_reducible refine LeO.bind ?_ (fun _ => ?_))
   | exact ih0 _ _ _ _ _
   | exact LeO.none _
   | refine LeO.ite ?_ ?_
   | refine LeO.bind ?_ (fun _ => ?_)
def op_Get.T10 : Bool × List (List Nat × List Nat) := (true, [([], []), ([0], [0]), ([1], [1]), ([2], [2]), ([3], [3]), ([], []), ([5], [5]), ([6], [6]), ([7], [7]), ([8], [8]), ([], []), ([10], [10]), ([11], [11]), ([12], [12]), ([13], [13]), ([4, 9, 14], [4, 9, 14]), ([15, 0, 1, 2, 3, 4, 5, 6, 7, 8, 9, 10, 11, 12, 13, 14, 15], [15]), ([16, 0, 1, 2, 3, 4, 5, 6, 7, 8, 9, 10, 11, 12, 13, 14, 15, 16], [])])
def op_Get.B10 : List Nat := [0, 1, 3, 7, 15, 0, 32, 96, 224, 480, 0, 1024, 3072, 7168, 15360, 32767, 65535, 131071]
theorem op_Get.tab10 : rtab .any (opsOf Try.f34 10) = op_Get.T10 := by kernel_rfl
theorem op_Get.bits10 : waitsOk op_Get.T10.2 op_Get.B10 = true := by kernel_rfl
set_option maxHeartbeats 8000000 in
set_option maxRecDepth 100000 in
theorem op_Get.calls (k : Nat) (a0 : ByteArray) (r1 : ByteArray) (r2 : Int) (r3 : List (S54)) (r4 : Int) (w : World) (h : op_Get.f k a0 = some (r1, r2, r3, r4)) :
  Calls Try.prog 34 #[.string a0] w fun e w' => ∃ v2_ : Value, e = .returned (.tuple #[.agg #[.string r1, .int .i64 r2, v2_], .int .i64 r4]) ∧ Kd.R k54 54 w' w.heap.size (fun _ => True) v2_ r3 ∧ Below w.heap.size w w' := by
 have hu75 := Try.underlying75
 have hu54 := Try.underlying54
 have HB := Aside0.mk (Below.refl w.heap.size w)
 have H : (if (a0.size : Int) > 4096 then (some ((⟨#[]⟩ : ByteArray), 0, ([] : List (S54)), 5)) else ((pack_Get.f a0).bind fun bt267 => (if bt267.2.2.2.2 = 0 then (if bt267.1 = 2 then (if (bt267.2.2.2.1.length : Int) = 3 then (if 0 < (bt267.2.2.2.1.length : Int) then (if ((rd_T54 bt267.2.2.2.1 0).f0) = 1 then (if 1 < (bt267.2.2.2.1.length : Int) then (if ((rd_T54 bt267.2.2.2.1 1).f0) = 0 then (if 2 < (bt267.2.2.2.1.length : Int) then (op_Get.j0 k (((rd_T54 bt267.2.2.2.1 2).f0) != 2) bt267.1 bt267.2.1 bt267.2.2.1 bt267.2.2.2.1) else (none)) else (op_Get.j0 k true bt267.1 bt267.2.1 bt267.2.2.1 bt267.2.2.2.1)) else (none)) else (op_Get.j0 k true bt267.1 bt267.2.1 bt267.2.2.1 bt267.2.2.2.1)) else (none)) else (op_Get.j0 k true bt267.1 bt267.2.1 bt267.2.2.1 bt267.2.2.2.1)) else (op_Get.j0 k true bt267.1 bt267.2.1 bt267.2.2.1 bt267.2.2.2.1)) else (some ((⟨#[]⟩ : ByteArray), 0, ([] : List (S54)), bt267.2.2.2.2))))) = some (r1, r2, r3, r4) := h
 clear h
 by_cases c2 : (a0.size : Int) > 4096
 ·rw [if_pos c2] at H
  have c2b0 : decide (4096 < (a0.size : Int)) = true := decide_eq_true c2
  have c2b1 : decide (4096 < a0.size) = true := decide_eq_true (by omega)
  clear c2
  simp only [Option.some.injEq, Prod.mk.injEq] at H
  obtain ⟨rfl, rfl, rfl, rfl⟩ := H
  go_enter Try.func34, Try.ntmps34
  go_wp2_with (first | ((with_reducible refine gate_dst (N := 2) rfl ?_); (try (refine gate_guard (by rfl) ?_; dsimp only)); refine box_event ?hg (N := 2) ?hd (cs := #[.string (⟨#[]⟩ : ByteArray), .int .i64 0, .slice none 0 0]) (t := 75) ?hr ?_; (case hd => rfl); (case hg => rfl); (case hr => first | (go_simp; done) | (go_simp; rfl)); intro gb266 hg w3 hbox hb; have n0_ := Aside0.mk (below_step bb hb); have n1_ := Aside0.mk (hbox); have n2_ := Aside0.mk ((by rw [hg]; exact (below_size bb) : w.heap.size ≤ gb266)); have n3_ := Aside0.mk ((by rw [hg]; exact (below_size bb) : w.heap.size ≤ gb266)); clear HB; have HB := n0_; have BK266 := n1_; have GW266 := n2_; have GE266 := n3_; clear n0_ n1_ n2_ n3_; clear hb hbox hg; have hcz4_0 : w3.cell? ⟨gb266, 0, none⟩ = some (.string (⟨#[]⟩ : ByteArray)) := (blk_cell BK266.out 0).trans rfl; have hcz4_1 : w3.cell? ⟨gb266, 1, none⟩ = some (.int .i64 0) := (blk_cell BK266.out 1).trans rfl; have hcz4_2 : w3.cell? ⟨gb266, 2, none⟩ = some (.slice none 0 0) := (blk_cell BK266.out 2).trans rfl; have hfz4_0 := blk_frozen BK266.out 0; have hfz4_1 := blk_frozen BK266.out 1; have hfz4_2 := blk_frozen BK266.out 2))
  refine bodyPost_ret (results_ct rfl _ _ gb266 75 #[.string (⟨#[]⟩ : ByteArray), .int .i64 0, .slice none 0 0] (0, 0) _ rfl (rb (blk_put (cs := #[.string (⟨#[]⟩ : ByteArray), .int .i64 0, .slice none 0 0]) (rb (blk_put (cs := #[.string (⟨#[]⟩ : ByteArray), .int .i64 0, .slice none 0 0]) (rb (blk_put (cs := #[.string (⟨#[]⟩ : ByteArray), .int .i64 0, .slice none 0 0]) (rb BK266.out) 0 _ rfl)) 1 _ rfl)) 2 _ rfl)) Try.underlying75 rfl (by kernel_rfl)) rfl ?_
  exact ⟨_, by first | rfl | (simp [errW_none, errW_some] <;> rfl) | (simp [*, errW_none, errW_some] <;> rfl), kn, bb⟩
 ·rw [if_neg c2] at H
  have c2b0 : decide (4096 < (a0.size : Int)) = false := decide_eq_false c2
  have c2b1 : decide (4096 < a0.size) = false := decide_eq_false (by omega)
  clear c2
  replace H := Option.bind_eq_some_iff.mp H
  obtain ⟨⟨t267, t268, t269, t270, t273⟩, A50, H⟩ := H
  replace H : (if t273 = 0 then (if t267 = 2 then (if (t270.length : Int) = 3 then (if 0 < (t270.length : Int) then (if ((rd_T54 t270 0).f0) = 1 then (if 1 < (t270.length : Int) then (if ((rd_T54 t270 1).f0) = 0 then (if 2 < (t270.length : Int) then (op_Get.j0 k (((rd_T54 t270 2).f0) != 2) t267 t268 t269 t270) else (none)) else (op_Get.j0 k true t267 t268 t269 t270)) else (none)) else (op_Get.j0 k true t267 t268 t269 t270)) else (none)) else (op_Get.j0 k true t267 t268 t269 t270)) else (op_Get.j0 k true t267 t268 t269 t270)) else (some ((⟨#[]⟩ : ByteArray), 0, ([] : List (S54)), t273))) = some (r1, r2, r3, r4) := H
  have A5 := Aside0.mk A50
  clear A50
  by_cases c6 : t273 = 0
  ·rw [if_pos c6] at H
   have c6b0 : (t273 == 0) = true := beq_iff_eq.mpr c6
   have c6b1 : (t273 != 0) = false := bne_eq_false_iff_eq.mpr c6
   clear c6
   have HC7 := Aside0.mk H
   clear H
   go_enter Try.func34, Try.ntmps34
   go_upto_region 6 with (first | ((with_reducible refine gate_dst (N := 2) rfl ?_); (try (refine gate_guard (by rfl) ?_; dsimp only)); refine box_event ?hg (N := 2) ?hd (cs := #[.string (⟨#[]⟩ : ByteArray), .int .i64 0, .slice none 0 0]) (t := 75) ?hr ?_; (case hd => rfl); (case hg => rfl); (case hr => first | (go_simp; done) | (go_simp; rfl)); intro gb266 hg w8 hbox hb; have n0_ := Aside0.mk (below_step bb hb); have n1_ := Aside0.mk (hbox); have n2_ := Aside0.mk ((by rw [hg]; exact (below_size bb) : w.heap.size ≤ gb266)); have n3_ := Aside0.mk ((by rw [hg]; exact (below_size bb) : w.heap.size ≤ gb266)); clear HB; have HB := n0_; have BK266 := n1_; have GW266 := n2_; have GE266 := n3_; clear n0_ n1_ n2_ n3_; clear hb hbox hg) | ((with_reducible refine gate_callee (f := 75) rfl ?_); refine goesL_ (some 12) rfl rfl Try.func75 (by kernel_rfl) rfl #[.string a0] rfl ag ?_; (with_reducible refine (pack_Get.calls a0 t267 t268 t269 t270 t273 _ A5.out).mono ?_); rintro e w9 ⟨v271, rfl, ho0, hb⟩; refine ⟨_, rfl, ?_⟩; have n0_ := Aside0.mk (Kd.R_lower ho0 (below_size bb)); have n1_ := Aside0.mk (blk_below (g := gb266) (o := .cells #[.string (⟨#[]⟩ : ByteArray), .int .i64 0, .slice none 0 0] 75 (0, 0)) (rb BK266.out) hb); have n2_ := Aside0.mk (below_step bb hb); clear BK266; clear HB; have HO272 := n0_; have BK266 := n1_; have HB := n2_; clear n0_ n1_ n2_; (try clear hb); (try clear hb2); (try clear hk); (try clear hi); (try clear ho0)) | ((with_reducible refine gate_dst (N := 4) rfl ?_); (try (refine gate_guard (by rfl) ?_; dsimp only)); refine box_event ?hg (N := 4) ?hd (cs := #[.int .i64 0, .int .i64 0, .string (⟨#[]⟩ : ByteArray), .slice none 0 0]) (t := 54) ?hr ?_; (case hd => rfl); (case hg => rfl); (case hr => first | (go_simp; done) | (go_simp; rfl)); intro gb274 hg w10 hbox hb; have n0_ := Aside0.mk (Kd.R_below (Kd.R_elderB (kR HO272.out) gb274 (Nat.le_of_eq hg.symm)) hb); have n1_ := Aside0.mk (blk_below (g := gb266) (o := .cells #[.string (⟨#[]⟩ : ByteArray), .int .i64 0, .slice none 0 0] 75 (0, 0)) (rb BK266.out) hb); have n2_ := Aside0.mk (below_step bb hb); have n3_ := Aside0.mk (hbox); have n4_ := Aside0.mk ((by rw [hg]; exact (below_size bb) : w.heap.size ≤ gb274)); have n5_ := Aside0.mk ((by rw [hg]; exact (below_size bb) : w.heap.size ≤ gb274)); have n6_ := Aside0.mk ((by rw [hg]; exact Nat.ne_of_lt (blk_lt (g := gb266) (o := .cells #[.string (⟨#[]⟩ : ByteArray), .int .i64 0, .slice none 0 0] 75 (0, 0)) (rb BK266.out)) : gb266 ≠ gb274)); have n7_ := Aside0.mk ((by rw [hg]; exact Nat.ne_of_gt (blk_lt (g := gb266) (o := .cells #[.string (⟨#[]⟩ : ByteArray), .int .i64 0, .slice none 0 0] 75 (0, 0)) (rb BK266.out)) : gb274 ≠ gb266)); clear HO272; clear BK266; clear HB; have HO272 := n0_; have BK266 := n1_; have HB := n2_; have BK274 := n3_; have GW274 := n4_; have GE274 := n5_; have NB266_274 := n6_; have NB274_266 := n7_; clear n0_ n1_ n2_ n3_ n4_ n5_ n6_ n7_; clear hb hbox hg; have hnb11 := NB274_266.out; have hnc11 := NB266_274.out; have hcz12_0 : w10.cell? ⟨gb274, 0, none⟩ = some (.int .i64 0) := (blk_cell BK274.out 0).trans rfl; have hcz12_1 : w10.cell? ⟨gb274, 1, none⟩ = some (.int .i64 0) := (blk_cell BK274.out 1).trans rfl; have hcz12_2 : w10.cell? ⟨gb274, 2, none⟩ = some (.string (⟨#[]⟩ : ByteArray)) := (blk_cell BK274.out 2).trans rfl; have hcz12_3 : w10.cell? ⟨gb274, 3, none⟩ = some (.slice none 0 0) := (blk_cell BK274.out 3).trans rfl; have hfz12_0 := blk_frozen BK274.out 0; have hfz12_1 := blk_frozen BK274.out 1; have hfz12_2 := blk_frozen BK274.out 2; have hfz12_3 := blk_frozen BK274.out 3; obtain ⟨Ao13, co13, eo13⟩ := Kd.R_slice HO272.out; subst eo13))
   (try simp only [Act.put, List.setIfInBounds_toArray, List.set_cons_zero, List.set_cons_succ])
   go_cut [20] (fun v20 wc => ∃ (kq : Nat) (x20_6 : Bool), v20 = .bool x20_6 ∧ Aside0 (op_Get.j0 kq x20_6 t267 t268 t269 t270 = some (r1, r2, r3, r4)) ∧ Aside0 (kq ≤ k) ∧ Aside0 (Kd.R k54 54 wc w.heap.size (fun k_ => k_ ≠ gb274) (.slice Ao13 t270.length co13) t270) ∧ Aside0 (wc.heap[gb266]? = some (.cells #[.string (⟨#[]⟩ : ByteArray), .int .i64 0, (.slice none 0 0)] 75 (0, 0))) ∧ Aside0 (wc.heap[gb274]? = some (.cells #[.int .i64 t267, .int .i64 t268, .string t269, (.slice Ao13 t270.length co13)] 54 (0, 0))) ∧ Aside0 (Below w.heap.size w wc))
   case first =>
    have H := HC7.out
    clear HC7
    by_cases c14 : t267 = 2
    ·rw [if_pos c14] at H
     have c14b0 : (t267 == 2) = true := beq_iff_eq.mpr c14
     have c14b1 : (t267 != 2) = false := bne_eq_false_iff_eq.mpr c14
     clear c14
     (first | rw [c14b0] | (simp only [i64_w, i32_w]; rw [c14b0]) | skip)
     by_cases c15 : (t270.length : Int) = 3
     ·rw [if_pos c15] at H
      have c15b0 : ((t270.length : Int) == 3) = true := beq_iff_eq.mpr c15
      have c15b1 : ((t270.length : Int) != 3) = false := bne_eq_false_iff_eq.mpr c15
      clear c15
      by_cases c16 : 0 < (t270.length : Int)
      ·rw [if_pos c16] at H
       have c16b0 : decide (0 < (t270.length : Int)) = true := decide_eq_true c16
       have c16b1 : decide (0 < t270.length) = true := decide_eq_true (by omega)
       clear c16
       by_cases c17 : ((rd_T54 t270 0).f0) = 1
       ·rw [if_pos c17] at H
        have c17b0 : (((rd_T54 t270 0).f0) == 1) = true := beq_iff_eq.mpr c17
        have c17b1 : (((rd_T54 t270 0).f0) != 1) = false := bne_eq_false_iff_eq.mpr c17
        clear c17
        by_cases c18 : 1 < (t270.length : Int)
        ·rw [if_pos c18] at H
         have c18b0 : decide (1 < (t270.length : Int)) = true := decide_eq_true c18
         have c18b1 : decide (1 < t270.length) = true := decide_eq_true (by omega)
         clear c18
         by_cases c19 : ((rd_T54 t270 1).f0) = 0
         ·rw [if_pos c19] at H
          have c19b0 : (((rd_T54 t270 1).f0) == 0) = true := beq_iff_eq.mpr c19
          have c19b1 : (((rd_T54 t270 1).f0) != 0) = false := bne_eq_false_iff_eq.mpr c19
          clear c19
          by_cases c20 : 2 < (t270.length : Int)
          ·rw [if_pos c20] at H
           have c20b0 : decide (2 < (t270.length : Int)) = true := decide_eq_true c20
           have c20b1 : decide (2 < t270.length) = true := decide_eq_true (by omega)
           clear c20
           have H' := Aside0.mk H
           clear H
           have hnb21 := NB274_266.out
           have hnc21 := NB266_274.out
           have hcz22_0 : w10.cell? ⟨gb274, 0, none⟩ = some (.int .i64 0) := (blk_cell BK274.out 0).trans rfl
           have hcz22_1 : w10.cell? ⟨gb274, 1, none⟩ = some (.int .i64 0) := (blk_cell BK274.out 1).trans rfl
           have hcz22_2 : w10.cell? ⟨gb274, 2, none⟩ = some (.string (⟨#[]⟩ : ByteArray)) := (blk_cell BK274.out 2).trans rfl
           have hcz22_3 : w10.cell? ⟨gb274, 3, none⟩ = some (.slice none 0 0) := (blk_cell BK274.out 3).trans rfl
           have hfz22_0 := blk_frozen BK274.out 0
           have hfz22_1 := blk_frozen BK274.out 1
           have hfz22_2 := blk_frozen BK274.out 2
           have hfz22_3 := blk_frozen BK274.out 3
           have p275 : 0 ≤ (0 : Int) := (by omega)
           have q275 : 0 < (t270.length : Int) := of_decide_eq_true (by first | (with_reducible assumption) | assumption)
           obtain ⟨ad275, A275_3, c275_3, e275, hx275_0, hx275_1, hx275_2, hx275_3, hl275_3, hi275_3⟩ := at_T54 (Kd.R_reads' HO272.out).2.2 0 p275 q275
           cases e275
           have qi275 : (0 < t270.length) = True := eq_true (by omega)
           (try rw [show ((0 : Int)).toNat = 0 from rfl] at hx275_0)
           (try rw [show 0 * 4 = 0 from rfl] at hx275_0)
           (try rw [Addr.add_zero'] at hx275_0)
           (try rw [show ((0 : Int)).toNat = 0 from rfl] at hx275_1)
           (try rw [show 0 * 4 = 0 from rfl] at hx275_1)
           (try rw [Addr.add_zero'] at hx275_1)
           (try rw [show ((0 : Int)).toNat = 0 from rfl] at hx275_2)
           (try rw [show 0 * 4 = 0 from rfl] at hx275_2)
           (try rw [Addr.add_zero'] at hx275_2)
           (try rw [show ((0 : Int)).toNat = 0 from rfl] at hx275_3)
           (try rw [show 0 * 4 = 0 from rfl] at hx275_3)
           (try rw [Addr.add_zero'] at hx275_3)
           have hn275_0 : ad275.block ≠ gb274 := Kd.own_blk (g := gb274) (fun he_ => absurd (HO272.out.1 gb274 he_.symm) (by simp))
           have hn275_1 : ad275.block ≠ gb274 := Kd.own_blk (g := gb274) (fun he_ => absurd (HO272.out.1 gb274 he_.symm) (by simp))
           have hn275_2 : ad275.block ≠ gb274 := Kd.own_blk (g := gb274) (fun he_ => absurd (HO272.out.1 gb274 he_.symm) (by simp))
           have hn275_3 : ad275.block ≠ gb274 := Kd.own_blk (g := gb274) (fun he_ => absurd (HO272.out.1 gb274 he_.symm) (by simp))
           have HR275_3 := Aside0.mk hi275_3
           have HC275_3 := Aside0.mk hl275_3
           clear hi275_3 hl275_3
           replace hx275_0 := (cell_far (p := ⟨gb274, 0, none⟩) (by first | (rw [add_block]; exact hn275_0) | (show (Addr.add _ _).block ≠ _; rw [add_block]; exact hn275_0) | exact hn275_0) (.int .i64 t267)).trans hx275_0
           replace hx275_1 := (cell_far (p := ⟨gb274, 0, none⟩) (by first | (rw [add_block]; exact hn275_0) | (show (Addr.add _ _).block ≠ _; rw [add_block]; exact hn275_0) | exact hn275_0) (.int .i64 t267)).trans hx275_1
           replace hx275_2 := (cell_far (p := ⟨gb274, 0, none⟩) (by first | (rw [add_block]; exact hn275_0) | (show (Addr.add _ _).block ≠ _; rw [add_block]; exact hn275_0) | exact hn275_0) (.int .i64 t267)).trans hx275_2
           replace hx275_3 := (cell_far (p := ⟨gb274, 0, none⟩) (by first | (rw [add_block]; exact hn275_0) | (show (Addr.add _ _).block ≠ _; rw [add_block]; exact hn275_0) | exact hn275_0) (.int .i64 t267)).trans hx275_3
           replace hx275_0 := (cell_far (p := ⟨gb274, 1, none⟩) (by first | (rw [add_block]; exact hn275_1) | (show (Addr.add _ _).block ≠ _; rw [add_block]; exact hn275_1) | exact hn275_1) (.int .i64 t268)).trans hx275_0
           replace hx275_1 := (cell_far (p := ⟨gb274, 1, none⟩) (by first | (rw [add_block]; exact hn275_1) | (show (Addr.add _ _).block ≠ _; rw [add_block]; exact hn275_1) | exact hn275_1) (.int .i64 t268)).trans hx275_1
           replace hx275_2 := (cell_far (p := ⟨gb274, 1, none⟩) (by first | (rw [add_block]; exact hn275_1) | (show (Addr.add _ _).block ≠ _; rw [add_block]; exact hn275_1) | exact hn275_1) (.int .i64 t268)).trans hx275_2
           replace hx275_3 := (cell_far (p := ⟨gb274, 1, none⟩) (by first | (rw [add_block]; exact hn275_1) | (show (Addr.add _ _).block ≠ _; rw [add_block]; exact hn275_1) | exact hn275_1) (.int .i64 t268)).trans hx275_3
           replace hx275_0 := (cell_far (p := ⟨gb274, 2, none⟩) (by first | (rw [add_block]; exact hn275_2) | (show (Addr.add _ _).block ≠ _; rw [add_block]; exact hn275_2) | exact hn275_2) (.string t269)).trans hx275_0
           replace hx275_1 := (cell_far (p := ⟨gb274, 2, none⟩) (by first | (rw [add_block]; exact hn275_2) | (show (Addr.add _ _).block ≠ _; rw [add_block]; exact hn275_2) | exact hn275_2) (.string t269)).trans hx275_1
           replace hx275_2 := (cell_far (p := ⟨gb274, 2, none⟩) (by first | (rw [add_block]; exact hn275_2) | (show (Addr.add _ _).block ≠ _; rw [add_block]; exact hn275_2) | exact hn275_2) (.string t269)).trans hx275_2
           replace hx275_3 := (cell_far (p := ⟨gb274, 2, none⟩) (by first | (rw [add_block]; exact hn275_2) | (show (Addr.add _ _).block ≠ _; rw [add_block]; exact hn275_2) | exact hn275_2) (.string t269)).trans hx275_3
           replace hx275_0 := (cell_far (p := ⟨gb274, 3, none⟩) (by first | (rw [add_block]; exact hn275_3) | (show (Addr.add _ _).block ≠ _; rw [add_block]; exact hn275_3) | exact hn275_3) (.slice (some ad275) t270.length co13)).trans hx275_0
           replace hx275_1 := (cell_far (p := ⟨gb274, 3, none⟩) (by first | (rw [add_block]; exact hn275_3) | (show (Addr.add _ _).block ≠ _; rw [add_block]; exact hn275_3) | exact hn275_3) (.slice (some ad275) t270.length co13)).trans hx275_1
           replace hx275_2 := (cell_far (p := ⟨gb274, 3, none⟩) (by first | (rw [add_block]; exact hn275_3) | (show (Addr.add _ _).block ≠ _; rw [add_block]; exact hn275_3) | exact hn275_3) (.slice (some ad275) t270.length co13)).trans hx275_2
           replace hx275_3 := (cell_far (p := ⟨gb274, 3, none⟩) (by first | (rw [add_block]; exact hn275_3) | (show (Addr.add _ _).block ≠ _; rw [add_block]; exact hn275_3) | exact hn275_3) (.slice (some ad275) t270.length co13)).trans hx275_3
           clear hn275_0
           clear hn275_1
           clear hn275_2
           clear hn275_3
           replace p275 := eq_true p275
           replace q275 := eq_true q275
           have p276 : 0 ≤ (1 : Int) := (by omega)
           have q276 : 1 < (t270.length : Int) := of_decide_eq_true (by first | (with_reducible assumption) | assumption)
           obtain ⟨ad276, A276_3, c276_3, e276, hx276_0, hx276_1, hx276_2, hx276_3, hl276_3, hi276_3⟩ := at_T54 (Kd.R_reads' HO272.out).2.2 1 p276 q276
           obtain rfl : ad275 = ad276 := (by injection e276)
           (try simp only [show (1 : Int).toNat = 1 from rfl, Nat.reduceMul, Nat.reduceEqDiff, Go.Addr.add, ↓reduceIte] at hx276_0 hx276_1 hx276_2 hx276_3)
           have qi276 : (1 < t270.length) = True := eq_true (by omega)
           (try rw [show ((1 : Int)).toNat = 1 from rfl] at hx276_0)
           (try rw [show 1 * 4 = 4 from rfl] at hx276_0)
           (try rw [show ((1 : Int)).toNat = 1 from rfl] at hx276_1)
           (try rw [show 1 * 4 = 4 from rfl] at hx276_1)
           (try rw [show ((1 : Int)).toNat = 1 from rfl] at hx276_2)
           (try rw [show 1 * 4 = 4 from rfl] at hx276_2)
           (try rw [show ((1 : Int)).toNat = 1 from rfl] at hx276_3)
           (try rw [show 1 * 4 = 4 from rfl] at hx276_3)
           have hn276_0 : ad275.block ≠ gb274 := Kd.own_blk (g := gb274) (fun he_ => absurd (HO272.out.1 gb274 he_.symm) (by simp))
           have hn276_1 : ad275.block ≠ gb274 := Kd.own_blk (g := gb274) (fun he_ => absurd (HO272.out.1 gb274 he_.symm) (by simp))
           have hn276_2 : ad275.block ≠ gb274 := Kd.own_blk (g := gb274) (fun he_ => absurd (HO272.out.1 gb274 he_.symm) (by simp))
           have hn276_3 : ad275.block ≠ gb274 := Kd.own_blk (g := gb274) (fun he_ => absurd (HO272.out.1 gb274 he_.symm) (by simp))
           have HR276_3 := Aside0.mk hi276_3
           have HC276_3 := Aside0.mk hl276_3
           clear hi276_3 hl276_3
           replace hx276_0 := (cell_far (p := ⟨gb274, 0, none⟩) (by first | (rw [add_block]; exact hn276_0) | (show (Addr.add _ _).block ≠ _; rw [add_block]; exact hn276_0) | exact hn276_0) (.int .i64 t267)).trans hx276_0
           replace hx276_1 := (cell_far (p := ⟨gb274, 0, none⟩) (by first | (rw [add_block]; exact hn276_0) | (show (Addr.add _ _).block ≠ _; rw [add_block]; exact hn276_0) | exact hn276_0) (.int .i64 t267)).trans hx276_1
           replace hx276_2 := (cell_far (p := ⟨gb274, 0, none⟩) (by first | (rw [add_block]; exact hn276_0) | (show (Addr.add _ _).block ≠ _; rw [add_block]; exact hn276_0) | exact hn276_0) (.int .i64 t267)).trans hx276_2
           replace hx276_3 := (cell_far (p := ⟨gb274, 0, none⟩) (by first | (rw [add_block]; exact hn276_0) | (show (Addr.add _ _).block ≠ _; rw [add_block]; exact hn276_0) | exact hn276_0) (.int .i64 t267)).trans hx276_3
           replace hx276_0 := (cell_far (p := ⟨gb274, 1, none⟩) (by first | (rw [add_block]; exact hn276_1) | (show (Addr.add _ _).block ≠ _; rw [add_block]; exact hn276_1) | exact hn276_1) (.int .i64 t268)).trans hx276_0
           replace hx276_1 := (cell_far (p := ⟨gb274, 1, none⟩) (by first | (rw [add_block]; exact hn276_1) | (show (Addr.add _ _).block ≠ _; rw [add_block]; exact hn276_1) | exact hn276_1) (.int .i64 t268)).trans hx276_1
           replace hx276_2 := (cell_far (p := ⟨gb274, 1, none⟩) (by first | (rw [add_block]; exact hn276_1) | (show (Addr.add _ _).block ≠ _; rw [add_block]; exact hn276_1) | exact hn276_1) (.int .i64 t268)).trans hx276_2
           replace hx276_3 := (cell_far (p := ⟨gb274, 1, none⟩) (by first | (rw [add_block]; exact hn276_1) | (show (Addr.add _ _).block ≠ _; rw [add_block]; exact hn276_1) | exact hn276_1) (.int .i64 t268)).trans hx276_3
           replace hx276_0 := (cell_far (p := ⟨gb274, 2, none⟩) (by first | (rw [add_block]; exact hn276_2) | (show (Addr.add _ _).block ≠ _; rw [add_block]; exact hn276_2) | exact hn276_2) (.string t269)).trans hx276_0
           replace hx276_1 := (cell_far (p := ⟨gb274, 2, none⟩) (by first | (rw [add_block]; exact hn276_2) | (show (Addr.add _ _).block ≠ _; rw [add_block]; exact hn276_2) | exact hn276_2) (.string t269)).trans hx276_1
           replace hx276_2 := (cell_far (p := ⟨gb274, 2, none⟩) (by first | (rw [add_block]; exact hn276_2) | (show (Addr.add _ _).block ≠ _; rw [add_block]; exact hn276_2) | exact hn276_2) (.string t269)).trans hx276_2
           replace hx276_3 := (cell_far (p := ⟨gb274, 2, none⟩) (by first | (rw [add_block]; exact hn276_2) | (show (Addr.add _ _).block ≠ _; rw [add_block]; exact hn276_2) | exact hn276_2) (.string t269)).trans hx276_3
           replace hx276_0 := (cell_far (p := ⟨gb274, 3, none⟩) (by first | (rw [add_block]; exact hn276_3) | (show (Addr.add _ _).block ≠ _; rw [add_block]; exact hn276_3) | exact hn276_3) (.slice (some ad275) t270.length co13)).trans hx276_0
           replace hx276_1 := (cell_far (p := ⟨gb274, 3, none⟩) (by first | (rw [add_block]; exact hn276_3) | (show (Addr.add _ _).block ≠ _; rw [add_block]; exact hn276_3) | exact hn276_3) (.slice (some ad275) t270.length co13)).trans hx276_1
           replace hx276_2 := (cell_far (p := ⟨gb274, 3, none⟩) (by first | (rw [add_block]; exact hn276_3) | (show (Addr.add _ _).block ≠ _; rw [add_block]; exact hn276_3) | exact hn276_3) (.slice (some ad275) t270.length co13)).trans hx276_2
           replace hx276_3 := (cell_far (p := ⟨gb274, 3, none⟩) (by first | (rw [add_block]; exact hn276_3) | (show (Addr.add _ _).block ≠ _; rw [add_block]; exact hn276_3) | exact hn276_3) (.slice (some ad275) t270.length co13)).trans hx276_3
           clear hn276_0
           clear hn276_1
           clear hn276_2
           clear hn276_3
           replace p276 := eq_true p276
           replace q276 := eq_true q276
           have p277 : 0 ≤ (2 : Int) := (by omega)
           have q277 : 2 < (t270.length : Int) := of_decide_eq_true (by first | (with_reducible assumption) | assumption)
           obtain ⟨ad277, A277_3, c277_3, e277, hx277_0, hx277_1, hx277_2, hx277_3, hl277_3, hi277_3⟩ := at_T54 (Kd.R_reads' HO272.out).2.2 2 p277 q277
           obtain rfl : ad275 = ad277 := (by injection e277)
           (try simp only [show (2 : Int).toNat = 2 from rfl, Nat.reduceMul, Nat.reduceEqDiff, Go.Addr.add, ↓reduceIte] at hx277_0 hx277_1 hx277_2 hx277_3)
           have qi277 : (2 < t270.length) = True := eq_true (by omega)
           (try rw [show ((2 : Int)).toNat = 2 from rfl] at hx277_0)
           (try rw [show 2 * 4 = 8 from rfl] at hx277_0)
           (try rw [show ((2 : Int)).toNat = 2 from rfl] at hx277_1)
           (try rw [show 2 * 4 = 8 from rfl] at hx277_1)
           (try rw [show ((2 : Int)).toNat = 2 from rfl] at hx277_2)
           (try rw [show 2 * 4 = 8 from rfl] at hx277_2)
           (try rw [show ((2 : Int)).toNat = 2 from rfl] at hx277_3)
           (try rw [show 2 * 4 = 8 from rfl] at hx277_3)
           have hn277_0 : ad275.block ≠ gb274 := Kd.own_blk (g := gb274) (fun he_ => absurd (HO272.out.1 gb274 he_.symm) (by simp))
           have hn277_1 : ad275.block ≠ gb274 := Kd.own_blk (g := gb274) (fun he_ => absurd (HO272.out.1 gb274 he_.symm) (by simp))
           have hn277_2 : ad275.block ≠ gb274 := Kd.own_blk (g := gb274) (fun he_ => absurd (HO272.out.1 gb274 he_.symm) (by simp))
           have hn277_3 : ad275.block ≠ gb274 := Kd.own_blk (g := gb274) (fun he_ => absurd (HO272.out.1 gb274 he_.symm) (by simp))
           have HR277_3 := Aside0.mk hi277_3
           have HC277_3 := Aside0.mk hl277_3
           clear hi277_3 hl277_3
           replace hx277_0 := (cell_far (p := ⟨gb274, 0, none⟩) (by first | (rw [add_block]; exact hn277_0) | (show (Addr.add _ _).block ≠ _; rw [add_block]; exact hn277_0) | exact hn277_0) (.int .i64 t267)).trans hx277_0
           replace hx277_1 := (cell_far (p := ⟨gb274, 0, none⟩) (by first | (rw [add_block]; exact hn277_0) | (show (Addr.add _ _).block ≠ _; rw [add_block]; exact hn277_0) | exact hn277_0) (.int .i64 t267)).trans hx277_1
           replace hx277_2 := (cell_far (p := ⟨gb274, 0, none⟩) (by first | (rw [add_block]; exact hn277_0) | (show (Addr.add _ _).block ≠ _; rw [add_block]; exact hn277_0) | exact hn277_0) (.int .i64 t267)).trans hx277_2
           replace hx277_3 := (cell_far (p := ⟨gb274, 0, none⟩) (by first | (rw [add_block]; exact hn277_0) | (show (Addr.add _ _).block ≠ _; rw [add_block]; exact hn277_0) | exact hn277_0) (.int .i64 t267)).trans hx277_3
           replace hx277_0 := (cell_far (p := ⟨gb274, 1, none⟩) (by first | (rw [add_block]; exact hn277_1) | (show (Addr.add _ _).block ≠ _; rw [add_block]; exact hn277_1) | exact hn277_1) (.int .i64 t268)).trans hx277_0
           replace hx277_1 := (cell_far (p := ⟨gb274, 1, none⟩) (by first | (rw [add_block]; exact hn277_1) | (show (Addr.add _ _).block ≠ _; rw [add_block]; exact hn277_1) | exact hn277_1) (.int .i64 t268)).trans hx277_1
           replace hx277_2 := (cell_far (p := ⟨gb274, 1, none⟩) (by first | (rw [add_block]; exact hn277_1) | (show (Addr.add _ _).block ≠ _; rw [add_block]; exact hn277_1) | exact hn277_1) (.int .i64 t268)).trans hx277_2
           replace hx277_3 := (cell_far (p := ⟨gb274, 1, none⟩) (by first | (rw [add_block]; exact hn277_1) | (show (Addr.add _ _).block ≠ _; rw [add_block]; exact hn277_1) | exact hn277_1) (.int .i64 t268)).trans hx277_3
           replace hx277_0 := (cell_far (p := ⟨gb274, 2, none⟩) (by first | (rw [add_block]; exact hn277_2) | (show (Addr.add _ _).block ≠ _; rw [add_block]; exact hn277_2) | exact hn277_2) (.string t269)).trans hx277_0
           replace hx277_1 := (cell_far (p := ⟨gb274, 2, none⟩) (by first | (rw [add_block]; exact hn277_2) | (show (Addr.add _ _).block ≠ _; rw [add_block]; exact hn277_2) | exact hn277_2) (.string t269)).trans hx277_1
           replace hx277_2 := (cell_far (p := ⟨gb274, 2, none⟩) (by first | (rw [add_block]; exact hn277_2) | (show (Addr.add _ _).block ≠ _; rw [add_block]; exact hn277_2) | exact hn277_2) (.string t269)).trans hx277_2
           replace hx277_3 := (cell_far (p := ⟨gb274, 2, none⟩) (by first | (rw [add_block]; exact hn277_2) | (show (Addr.add _ _).block ≠ _; rw [add_block]; exact hn277_2) | exact hn277_2) (.string t269)).trans hx277_3
           replace hx277_0 := (cell_far (p := ⟨gb274, 3, none⟩) (by first | (rw [add_block]; exact hn277_3) | (show (Addr.add _ _).block ≠ _; rw [add_block]; exact hn277_3) | exact hn277_3) (.slice (some ad275) t270.length co13)).trans hx277_0
           replace hx277_1 := (cell_far (p := ⟨gb274, 3, none⟩) (by first | (rw [add_block]; exact hn277_3) | (show (Addr.add _ _).block ≠ _; rw [add_block]; exact hn277_3) | exact hn277_3) (.slice (some ad275) t270.length co13)).trans hx277_1
           replace hx277_2 := (cell_far (p := ⟨gb274, 3, none⟩) (by first | (rw [add_block]; exact hn277_3) | (show (Addr.add _ _).block ≠ _; rw [add_block]; exact hn277_3) | exact hn277_3) (.slice (some ad275) t270.length co13)).trans hx277_2
           replace hx277_3 := (cell_far (p := ⟨gb274, 3, none⟩) (by first | (rw [add_block]; exact hn277_3) | (show (Addr.add _ _).block ≠ _; rw [add_block]; exact hn277_3) | exact hn277_3) (.slice (some ad275) t270.length co13)).trans hx277_3
           clear hn277_0
           clear hn277_1
           clear hn277_2
           clear hn277_3
           replace p277 := eq_true p277
           replace q277 := eq_true q277
           go_wp2
           go_meet
           case rel => exact ⟨_, ((((rd_T54 t270 2).f0) != 2)), (by first | rfl | (simp; done) | (simp [*]; done)), H', ⟨by first | omega | exact Nat.le_refl _⟩, ⟨kR (Kd.R_mono (Kd.R_far (p := ⟨gb274, 3, none⟩) (Kd.R_far (p := ⟨gb274, 2, none⟩) (Kd.R_far (p := ⟨gb274, 1, none⟩) (Kd.R_far (p := ⟨gb274, 0, none⟩) (Kd.R_mono HO272.out (fun k_ hk => (⟨hk, hk.2⟩ : _ ∧ k_ ≠ gb274))) (fun _ hk => hk.2) (.int .i64 t267)) (fun _ hk => hk.2) (.int .i64 t268)) (fun _ hk => hk.2) (.string t269)) (fun _ hk => hk.2) (.slice (some ad275) t270.length co13)) (fun _ hk => hk.1.2))⟩, ⟨by (with_reducible repeat (first | refine blk_drewN ?_ _ | refine blk_drew ?_ | refine blk_alloc ?_ _)); refine blk_far ?_ NB266_274.out _; (with_reducible repeat (first | refine blk_drewN ?_ _ | refine blk_drew ?_ | refine blk_alloc ?_ _)); refine blk_far ?_ NB266_274.out _; (with_reducible repeat (first | refine blk_drewN ?_ _ | refine blk_drew ?_ | refine blk_alloc ?_ _)); refine blk_far ?_ NB266_274.out _; (with_reducible repeat (first | refine blk_drewN ?_ _ | refine blk_drew ?_ | refine blk_alloc ?_ _)); refine blk_far ?_ NB266_274.out _; (with_reducible repeat (first | refine blk_drewN ?_ _ | refine blk_drew ?_ | refine blk_alloc ?_ _)); exact BK266.out⟩, ⟨by (with_reducible repeat (first | refine blk_drewN ?_ _ | refine blk_drew ?_ | refine blk_alloc ?_ _)); refine blk_put (cs := #[.int .i64 t267, .int .i64 t268, .string t269, .slice none 0 0]) ?_ 3 _ rfl; (with_reducible repeat (first | refine blk_drewN ?_ _ | refine blk_drew ?_ | refine blk_alloc ?_ _)); refine blk_put (cs := #[.int .i64 t267, .int .i64 t268, .string (⟨#[]⟩ : ByteArray), .slice none 0 0]) ?_ 2 _ rfl; (with_reducible repeat (first | refine blk_drewN ?_ _ | refine blk_drew ?_ | refine blk_alloc ?_ _)); refine blk_put (cs := #[.int .i64 t267, .int .i64 0, .string (⟨#[]⟩ : ByteArray), .slice none 0 0]) ?_ 1 _ rfl; (with_reducible repeat (first | refine blk_drewN ?_ _ | refine blk_drew ?_ | refine blk_alloc ?_ _)); refine blk_put (cs := #[.int .i64 0, .int .i64 0, .string (⟨#[]⟩ : ByteArray), .slice none 0 0]) ?_ 0 _ rfl; (with_reducible repeat (first | refine blk_drewN ?_ _ | refine blk_drew ?_ | refine blk_alloc ?_ _)); exact BK274.out⟩, ⟨bb⟩⟩
          ·rw [if_neg c20] at H
           exact absurd H (by simp)
         ·rw [if_neg c19] at H
          have c19b0 : (((rd_T54 t270 1).f0) == 0) = false := beq_eq_false_iff_ne.mpr c19
          have c19b1 : (((rd_T54 t270 1).f0) != 0) = true := bne_iff_ne.mpr c19
          have H' := Aside0.mk H
          clear H
          have hnb23 := NB274_266.out
          have hnc23 := NB266_274.out
          have hcz24_0 : w10.cell? ⟨gb274, 0, none⟩ = some (.int .i64 0) := (blk_cell BK274.out 0).trans rfl
          have hcz24_1 : w10.cell? ⟨gb274, 1, none⟩ = some (.int .i64 0) := (blk_cell BK274.out 1).trans rfl
          have hcz24_2 : w10.cell? ⟨gb274, 2, none⟩ = some (.string (⟨#[]⟩ : ByteArray)) := (blk_cell BK274.out 2).trans rfl
          have hcz24_3 : w10.cell? ⟨gb274, 3, none⟩ = some (.slice none 0 0) := (blk_cell BK274.out 3).trans rfl
          have hfz24_0 := blk_frozen BK274.out 0
          have hfz24_1 := blk_frozen BK274.out 1
          have hfz24_2 := blk_frozen BK274.out 2
          have hfz24_3 := blk_frozen BK274.out 3
          have p275 : 0 ≤ (0 : Int) := (by omega)
          have q275 : 0 < (t270.length : Int) := of_decide_eq_true (by first | (with_reducible assumption) | assumption)
          obtain ⟨ad275, A275_3, c275_3, e275, hx275_0, hx275_1, hx275_2, hx275_3, hl275_3, hi275_3⟩ := at_T54 (Kd.R_reads' HO272.out).2.2 0 p275 q275
          cases e275
          have qi275 : (0 < t270.length) = True := eq_true (by omega)
          (try rw [show ((0 : Int)).toNat = 0 from rfl] at hx275_0)
          (try rw [show 0 * 4 = 0 from rfl] at hx275_0)
          (try rw [Addr.add_zero'] at hx275_0)
          (try rw [show ((0 : Int)).toNat = 0 from rfl] at hx275_1)
          (try rw [show 0 * 4 = 0 from rfl] at hx275_1)
          (try rw [Addr.add_zero'] at hx275_1)
          (try rw [show ((0 : Int)).toNat = 0 from rfl] at hx275_2)
          (try rw [show 0 * 4 = 0 from rfl] at hx275_2)
          (try rw [Addr.add_zero'] at hx275_2)
          (try rw [show ((0 : Int)).toNat = 0 from rfl] at hx275_3)
          (try rw [show 0 * 4 = 0 from rfl] at hx275_3)
          (try rw [Addr.add_zero'] at hx275_3)
          have hn275_0 : ad275.block ≠ gb274 := Kd.own_blk (g := gb274) (fun he_ => absurd (HO272.out.1 gb274 he_.symm) (by simp))
          have hn275_1 : ad275.block ≠ gb274 := Kd.own_blk (g := gb274) (fun he_ => absurd (HO272.out.1 gb274 he_.symm) (by simp))
          have hn275_2 : ad275.block ≠ gb274 := Kd.own_blk (g := gb274) (fun he_ => absurd (HO272.out.1 gb274 he_.symm) (by simp))
          have hn275_3 : ad275.block ≠ gb274 := Kd.own_blk (g := gb274) (fun he_ => absurd (HO272.out.1 gb274 he_.symm) (by simp))
          have HR275_3 := Aside0.mk hi275_3
          have HC275_3 := Aside0.mk hl275_3
          clear hi275_3 hl275_3
          replace hx275_0 := (cell_far (p := ⟨gb274, 0, none⟩) (by first | (rw [add_block]; exact hn275_0) | (show (Addr.add _ _).block ≠ _; rw [add_block]; exact hn275_0) | exact hn275_0) (.int .i64 t267)).trans hx275_0
          replace hx275_1 := (cell_far (p := ⟨gb274, 0, none⟩) (by first | (rw [add_block]; exact hn275_0) | (show (Addr.add _ _).block ≠ _; rw [add_block]; exact hn275_0) | exact hn275_0) (.int .i64 t267)).trans hx275_1
          replace hx275_2 := (cell_far (p := ⟨gb274, 0, none⟩) (by first | (rw [add_block]; exact hn275_0) | (show (Addr.add _ _).block ≠ _; rw [add_block]; exact hn275_0) | exact hn275_0) (.int .i64 t267)).trans hx275_2
          replace hx275_3 := (cell_far (p := ⟨gb274, 0, none⟩) (by first | (rw [add_block]; exact hn275_0) | (show (Addr.add _ _).block ≠ _; rw [add_block]; exact hn275_0) | exact hn275_0) (.int .i64 t267)).trans hx275_3
          replace hx275_0 := (cell_far (p := ⟨gb274, 1, none⟩) (by first | (rw [add_block]; exact hn275_1) | (show (Addr.add _ _).block ≠ _; rw [add_block]; exact hn275_1) | exact hn275_1) (.int .i64 t268)).trans hx275_0
          replace hx275_1 := (cell_far (p := ⟨gb274, 1, none⟩) (by first | (rw [add_block]; exact hn275_1) | (show (Addr.add _ _).block ≠ _; rw [add_block]; exact hn275_1) | exact hn275_1) (.int .i64 t268)).trans hx275_1
          replace hx275_2 := (cell_far (p := ⟨gb274, 1, none⟩) (by first | (rw [add_block]; exact hn275_1) | (show (Addr.add _ _).block ≠ _; rw [add_block]; exact hn275_1) | exact hn275_1) (.int .i64 t268)).trans hx275_2
          replace hx275_3 := (cell_far (p := ⟨gb274, 1, none⟩) (by first | (rw [add_block]; exact hn275_1) | (show (Addr.add _ _).block ≠ _; rw [add_block]; exact hn275_1) | exact hn275_1) (.int .i64 t268)).trans hx275_3
          replace hx275_0 := (cell_far (p := ⟨gb274, 2, none⟩) (by first | (rw [add_block]; exact hn275_2) | (show (Addr.add _ _).block ≠ _; rw [add_block]; exact hn275_2) | exact hn275_2) (.string t269)).trans hx275_0
          replace hx275_1 := (cell_far (p := ⟨gb274, 2, none⟩) (by first | (rw [add_block]; exact hn275_2) | (show (Addr.add _ _).block ≠ _; rw [add_block]; exact hn275_2) | exact hn275_2) (.string t269)).trans hx275_1
          replace hx275_2 := (cell_far (p := ⟨gb274, 2, none⟩) (by first | (rw [add_block]; exact hn275_2) | (show (Addr.add _ _).block ≠ _; rw [add_block]; exact hn275_2) | exact hn275_2) (.string t269)).trans hx275_2
          replace hx275_3 := (cell_far (p := ⟨gb274, 2, none⟩) (by first | (rw [add_block]; exact hn275_2) | (show (Addr.add _ _).block ≠ _; rw [add_block]; exact hn275_2) | exact hn275_2) (.string t269)).trans hx275_3
          replace hx275_0 := (cell_far (p := ⟨gb274, 3, none⟩) (by first | (rw [add_block]; exact hn275_3) | (show (Addr.add _ _).block ≠ _; rw [add_block]; exact hn275_3) | exact hn275_3) (.slice (some ad275) t270.length co13)).trans hx275_0
          replace hx275_1 := (cell_far (p := ⟨gb274, 3, none⟩) (by first | (rw [add_block]; exact hn275_3) | (show (Addr.add _ _).block ≠ _; rw [add_block]; exact hn275_3) | exact hn275_3) (.slice (some ad275) t270.length co13)).trans hx275_1
          replace hx275_2 := (cell_far (p := ⟨gb274, 3, none⟩) (by first | (rw [add_block]; exact hn275_3) | (show (Addr.add _ _).block ≠ _; rw [add_block]; exact hn275_3) | exact hn275_3) (.slice (some ad275) t270.length co13)).trans hx275_2
          replace hx275_3 := (cell_far (p := ⟨gb274, 3, none⟩) (by first | (rw [add_block]; exact hn275_3) | (show (Addr.add _ _).block ≠ _; rw [add_block]; exact hn275_3) | exact hn275_3) (.slice (some ad275) t270.length co13)).trans hx275_3
          clear hn275_0
          clear hn275_1
          clear hn275_2
          clear hn275_3
          replace p275 := eq_true p275
          replace q275 := eq_true q275
          have p276 : 0 ≤ (1 : Int) := (by omega)
          have q276 : 1 < (t270.length : Int) := of_decide_eq_true (by first | (with_reducible assumption) | assumption)
          obtain ⟨ad276, A276_3, c276_3, e276, hx276_0, hx276_1, hx276_2, hx276_3, hl276_3, hi276_3⟩ := at_T54 (Kd.R_reads' HO272.out).2.2 1 p276 q276
          obtain rfl : ad275 = ad276 := (by injection e276)
          (try simp only [show (1 : Int).toNat = 1 from rfl, Nat.reduceMul, Nat.reduceEqDiff, Go.Addr.add, ↓reduceIte] at hx276_0 hx276_1 hx276_2 hx276_3)
          have qi276 : (1 < t270.length) = True := eq_true (by omega)
          (try rw [show ((1 : Int)).toNat = 1 from rfl] at hx276_0)
          (try rw [show 1 * 4 = 4 from rfl] at hx276_0)
          (try rw [show ((1 : Int)).toNat = 1 from rfl] at hx276_1)
          (try rw [show 1 * 4 = 4 from rfl] at hx276_1)
          (try rw [show ((1 : Int)).toNat = 1 from rfl] at hx276_2)
          (try rw [show 1 * 4 = 4 from rfl] at hx276_2)
          (try rw [show ((1 : Int)).toNat = 1 from rfl] at hx276_3)
          (try rw [show 1 * 4 = 4 from rfl] at hx276_3)
          have hn276_0 : ad275.block ≠ gb274 := Kd.own_blk (g := gb274) (fun he_ => absurd (HO272.out.1 gb274 he_.symm) (by simp))
          have hn276_1 : ad275.block ≠ gb274 := Kd.own_blk (g := gb274) (fun he_ => absurd (HO272.out.1 gb274 he_.symm) (by simp))
          have hn276_2 : ad275.block ≠ gb274 := Kd.own_blk (g := gb274) (fun he_ => absurd (HO272.out.1 gb274 he_.symm) (by simp))
          have hn276_3 : ad275.block ≠ gb274 := Kd.own_blk (g := gb274) (fun he_ => absurd (HO272.out.1 gb274 he_.symm) (by simp))
          have HR276_3 := Aside0.mk hi276_3
          have HC276_3 := Aside0.mk hl276_3
          clear hi276_3 hl276_3
          replace hx276_0 := (cell_far (p := ⟨gb274, 0, none⟩) (by first | (rw [add_block]; exact hn276_0) | (show (Addr.add _ _).block ≠ _; rw [add_block]; exact hn276_0) | exact hn276_0) (.int .i64 t267)).trans hx276_0
          replace hx276_1 := (cell_far (p := ⟨gb274, 0, none⟩) (by first | (rw [add_block]; exact hn276_0) | (show (Addr.add _ _).block ≠ _; rw [add_block]; exact hn276_0) | exact hn276_0) (.int .i64 t267)).trans hx276_1
          replace hx276_2 := (cell_far (p := ⟨gb274, 0, none⟩) (by first | (rw [add_block]; exact hn276_0) | (show (Addr.add _ _).block ≠ _; rw [add_block]; exact hn276_0) | exact hn276_0) (.int .i64 t267)).trans hx276_2
          replace hx276_3 := (cell_far (p := ⟨gb274, 0, none⟩) (by first | (rw [add_block]; exact hn276_0) | (show (Addr.add _ _).block ≠ _; rw [add_block]; exact hn276_0) | exact hn276_0) (.int .i64 t267)).trans hx276_3
          replace hx276_0 := (cell_far (p := ⟨gb274, 1, none⟩) (by first | (rw [add_block]; exact hn276_1) | (show (Addr.add _ _).block ≠ _; rw [add_block]; exact hn276_1) | exact hn276_1) (.int .i64 t268)).trans hx276_0
          replace hx276_1 := (cell_far (p := ⟨gb274, 1, none⟩) (by first | (rw [add_block]; exact hn276_1) | (show (Addr.add _ _).block ≠ _; rw [add_block]; exact hn276_1) | exact hn276_1) (.int .i64 t268)).trans hx276_1
          replace hx276_2 := (cell_far (p := ⟨gb274, 1, none⟩) (by first | (rw [add_block]; exact hn276_1) | (show (Addr.add _ _).block ≠ _; rw [add_block]; exact hn276_1) | exact hn276_1) (.int .i64 t268)).trans hx276_2
          replace hx276_3 := (cell_far (p := ⟨gb274, 1, none⟩) (by first | (rw [add_block]; exact hn276_1) | (show (Addr.add _ _).block ≠ _; rw [add_block]; exact hn276_1) | exact hn276_1) (.int .i64 t268)).trans hx276_3
          replace hx276_0 := (cell_far (p := ⟨gb274, 2, none⟩) (by first | (rw [add_block]; exact hn276_2) | (show (Addr.add _ _).block ≠ _; rw [add_block]; exact hn276_2) | exact hn276_2) (.string t269)).trans hx276_0
          replace hx276_1 := (cell_far (p := ⟨gb274, 2, none⟩) (by first | (rw [add_block]; exact hn276_2) | (show (Addr.add _ _).block ≠ _; rw [add_block]; exact hn276_2) | exact hn276_2) (.string t269)).trans hx276_1
          replace hx276_2 := (cell_far (p := ⟨gb274, 2, none⟩) (by first | (rw [add_block]; exact hn276_2) | (show (Addr.add _ _).block ≠ _; rw [add_block]; exact hn276_2) | exact hn276_2) (.string t269)).trans hx276_2
          replace hx276_3 := (cell_far (p := ⟨gb274, 2, none⟩) (by first | (rw [add_block]; exact hn276_2) | (show (Addr.add _ _).block ≠ _; rw [add_block]; exact hn276_2) | exact hn276_2) (.string t269)).trans hx276_3
          replace hx276_0 := (cell_far (p := ⟨gb274, 3, none⟩) (by first | (rw [add_block]; exact hn276_3) | (show (Addr.add _ _).block ≠ _; rw [add_block]; exact hn276_3) | exact hn276_3) (.slice (some ad275) t270.length co13)).trans hx276_0
          replace hx276_1 := (cell_far (p := ⟨gb274, 3, none⟩) (by first | (rw [add_block]; exact hn276_3) | (show (Addr.add _ _).block ≠ _; rw [add_block]; exact hn276_3) | exact hn276_3) (.slice (some ad275) t270.length co13)).trans hx276_1
          replace hx276_2 := (cell_far (p := ⟨gb274, 3, none⟩) (by first | (rw [add_block]; exact hn276_3) | (show (Addr.add _ _).block ≠ _; rw [add_block]; exact hn276_3) | exact hn276_3) (.slice (some ad275) t270.length co13)).trans hx276_2
          replace hx276_3 := (cell_far (p := ⟨gb274, 3, none⟩) (by first | (rw [add_block]; exact hn276_3) | (show (Addr.add _ _).block ≠ _; rw [add_block]; exact hn276_3) | exact hn276_3) (.slice (some ad275) t270.length co13)).trans hx276_3
          clear hn276_0
          clear hn276_1
          clear hn276_2
          clear hn276_3
          replace p276 := eq_true p276
          replace q276 := eq_true q276
          go_wp2
          go_meet
          case rel => exact ⟨_, (true), (by first | rfl | (simp; done) | (simp [*]; done)), H', ⟨by first | omega | exact Nat.le_refl _⟩, ⟨kR (Kd.R_mono (Kd.R_far (p := ⟨gb274, 3, none⟩) (Kd.R_far (p := ⟨gb274, 2, none⟩) (Kd.R_far (p := ⟨gb274, 1, none⟩) (Kd.R_far (p := ⟨gb274, 0, none⟩) (Kd.R_mono HO272.out (fun k_ hk => (⟨hk, hk.2⟩ : _ ∧ k_ ≠ gb274))) (fun _ hk => hk.2) (.int .i64 t267)) (fun _ hk => hk.2) (.int .i64 t268)) (fun _ hk => hk.2) (.string t269)) (fun _ hk => hk.2) (.slice (some ad275) t270.length co13)) (fun _ hk => hk.1.2))⟩, ⟨by (with_reducible repeat (first | refine blk_drewN ?_ _ | refine blk_drew ?_ | refine blk_alloc ?_ _)); refine blk_far ?_ NB266_274.out _; (with_reducible repeat (first | refine blk_drewN ?_ _ | refine blk_drew ?_ | refine blk_alloc ?_ _)); refine blk_far ?_ NB266_274.out _; (with_reducible repeat (first | refine blk_drewN ?_ _ | refine blk_drew ?_ | refine blk_alloc ?_ _)); refine blk_far ?_ NB266_274.out _; (with_reducible repeat (first | refine blk_drewN ?_ _ | refine blk_drew ?_ | refine blk_alloc ?_ _)); refine blk_far ?_ NB266_274.out _; (with_reducible repeat (first | refine blk_drewN ?_ _ | refine blk_drew ?_ | refine blk_alloc ?_ _)); exact BK266.out⟩, ⟨by (with_reducible repeat (first | refine blk_drewN ?_ _ | refine blk_drew ?_ | refine blk_alloc ?_ _)); refine blk_put (cs := #[.int .i64 t267, .int .i64 t268, .string t269, .slice none 0 0]) ?_ 3 _ rfl; (with_reducible repeat (first | refine blk_drewN ?_ _ | refine blk_drew ?_ | refine blk_alloc ?_ _)); refine blk_put (cs := #[.int .i64 t267, .int .i64 t268, .string (⟨#[]⟩ : ByteArray), .slice none 0 0]) ?_ 2 _ rfl; (with_reducible repeat (first | refine blk_drewN ?_ _ | refine blk_drew ?_ | refine blk_alloc ?_ _)); refine blk_put (cs := #[.int .i64 t267, .int .i64 0, .string (⟨#[]⟩ : ByteArray), .slice none 0 0]) ?_ 1 _ rfl; (with_reducible repeat (first | refine blk_drewN ?_ _ | refine blk_drew ?_ | refine blk_alloc ?_ _)); refine blk_put (cs := #[.int .i64 0, .int .i64 0, .string (⟨#[]⟩ : ByteArray), .slice none 0 0]) ?_ 0 _ rfl; (with_reducible repeat (first | refine blk_drewN ?_ _ | refine blk_drew ?_ | refine blk_alloc ?_ _)); exact BK274.out⟩, ⟨bb⟩⟩
        ·rw [if_neg c18] at H
         exact absurd H (by simp)
       ·rw [if_neg c17] at H
        have c17b0 : (((rd_T54 t270 0).f0) == 1) = false := beq_eq_false_iff_ne.mpr c17
        have c17b1 : (((rd_T54 t270 0).f0) != 1) = true := bne_iff_ne.mpr c17
        have H' := Aside0.mk H
        clear H
        have hnb25 := NB274_266.out
        have hnc25 := NB266_274.out
        have hcz26_0 : w10.cell? ⟨gb274, 0, none⟩ = some (.int .i64 0) := (blk_cell BK274.out 0).trans rfl
        have hcz26_1 : w10.cell? ⟨gb274, 1, none⟩ = some (.int .i64 0) := (blk_cell BK274.out 1).trans rfl
        have hcz26_2 : w10.cell? ⟨gb274, 2, none⟩ = some (.string (⟨#[]⟩ : ByteArray)) := (blk_cell BK274.out 2).trans rfl
        have hcz26_3 : w10.cell? ⟨gb274, 3, none⟩ = some (.slice none 0 0) := (blk_cell BK274.out 3).trans rfl
        have hfz26_0 := blk_frozen BK274.out 0
        have hfz26_1 := blk_frozen BK274.out 1
        have hfz26_2 := blk_frozen BK274.out 2
        have hfz26_3 := blk_frozen BK274.out 3
        have p275 : 0 ≤ (0 : Int) := (by omega)
        have q275 : 0 < (t270.length : Int) := of_decide_eq_true (by first | (with_reducible assumption) | assumption)
        obtain ⟨ad275, A275_3, c275_3, e275, hx275_0, hx275_1, hx275_2, hx275_3, hl275_3, hi275_3⟩ := at_T54 (Kd.R_reads' HO272.out).2.2 0 p275 q275
        cases e275
        have qi275 : (0 < t270.length) = True := eq_true (by omega)
        (try rw [show ((0 : Int)).toNat = 0 from rfl] at hx275_0)
        (try rw [show 0 * 4 = 0 from rfl] at hx275_0)
        (try rw [Addr.add_zero'] at hx275_0)
        (try rw [show ((0 : Int)).toNat = 0 from rfl] at hx275_1)
        (try rw [show 0 * 4 = 0 from rfl] at hx275_1)
        (try rw [Addr.add_zero'] at hx275_1)
        (try rw [show ((0 : Int)).toNat = 0 from rfl] at hx275_2)
        (try rw [show 0 * 4 = 0 from rfl] at hx275_2)
        (try rw [Addr.add_zero'] at hx275_2)
        (try rw [show ((0 : Int)).toNat = 0 from rfl] at hx275_3)
        (try rw [show 0 * 4 = 0 from rfl] at hx275_3)
        (try rw [Addr.add_zero'] at hx275_3)
        have hn275_0 : ad275.block ≠ gb274 := Kd.own_blk (g := gb274) (fun he_ => absurd (HO272.out.1 gb274 he_.symm) (by simp))
        have hn275_1 : ad275.block ≠ gb274 := Kd.own_blk (g := gb274) (fun he_ => absurd (HO272.out.1 gb274 he_.symm) (by simp))
        have hn275_2 : ad275.block ≠ gb274 := Kd.own_blk (g := gb274) (fun he_ => absurd (HO272.out.1 gb274 he_.symm) (by simp))
        have hn275_3 : ad275.block ≠ gb274 := Kd.own_blk (g := gb274) (fun he_ => absurd (HO272.out.1 gb274 he_.symm) (by simp))
        have HR275_3 := Aside0.mk hi275_3
        have HC275_3 := Aside0.mk hl275_3
        clear hi275_3 hl275_3
        replace hx275_0 := (cell_far (p := ⟨gb274, 0, none⟩) (by first | (rw [add_block]; exact hn275_0) | (show (Addr.add _ _).block ≠ _; rw [add_block]; exact hn275_0) | exact hn275_0) (.int .i64 t267)).trans hx275_0
        replace hx275_1 := (cell_far (p := ⟨gb274, 0, none⟩) (by first | (rw [add_block]; exact hn275_0) | (show (Addr.add _ _).block ≠ _; rw [add_block]; exact hn275_0) | exact hn275_0) (.int .i64 t267)).trans hx275_1
        replace hx275_2 := (cell_far (p := ⟨gb274, 0, none⟩) (by first | (rw [add_block]; exact hn275_0) | (show (Addr.add _ _).block ≠ _; rw [add_block]; exact hn275_0) | exact hn275_0) (.int .i64 t267)).trans hx275_2
        replace hx275_3 := (cell_far (p := ⟨gb274, 0, none⟩) (by first | (rw [add_block]; exact hn275_0) | (show (Addr.add _ _).block ≠ _; rw [add_block]; exact hn275_0) | exact hn275_0) (.int .i64 t267)).trans hx275_3
        replace hx275_0 := (cell_far (p := ⟨gb274, 1, none⟩) (by first | (rw [add_block]; exact hn275_1) | (show (Addr.add _ _).block ≠ _; rw [add_block]; exact hn275_1) | exact hn275_1) (.int .i64 t268)).trans hx275_0
        replace hx275_1 := (cell_far (p := ⟨gb274, 1, none⟩) (by first | (rw [add_block]; exact hn275_1) | (show (Addr.add _ _).block ≠ _; rw [add_block]; exact hn275_1) | exact hn275_1) (.int .i64 t268)).trans hx275_1
        replace hx275_2 := (cell_far (p := ⟨gb274, 1, none⟩) (by first | (rw [add_block]; exact hn275_1) | (show (Addr.add _ _).block ≠ _; rw [add_block]; exact hn275_1) | exact hn275_1) (.int .i64 t268)).trans hx275_2
        replace hx275_3 := (cell_far (p := ⟨gb274, 1, none⟩) (by first | (rw [add_block]; exact hn275_1) | (show (Addr.add _ _).block ≠ _; rw [add_block]; exact hn275_1) | exact hn275_1) (.int .i64 t268)).trans hx275_3
        replace hx275_0 := (cell_far (p := ⟨gb274, 2, none⟩) (by first | (rw [add_block]; exact hn275_2) | (show (Addr.add _ _).block ≠ _; rw [add_block]; exact hn275_2) | exact hn275_2) (.string t269)).trans hx275_0
        replace hx275_1 := (cell_far (p := ⟨gb274, 2, none⟩) (by first | (rw [add_block]; exact hn275_2) | (show (Addr.add _ _).block ≠ _; rw [add_block]; exact hn275_2) | exact hn275_2) (.string t269)).trans hx275_1
        replace hx275_2 := (cell_far (p := ⟨gb274, 2, none⟩) (by first | (rw [add_block]; exact hn275_2) | (show (Addr.add _ _).block ≠ _; rw [add_block]; exact hn275_2) | exact hn275_2) (.string t269)).trans hx275_2
        replace hx275_3 := (cell_far (p := ⟨gb274, 2, none⟩) (by first | (rw [add_block]; exact hn275_2) | (show (Addr.add _ _).block ≠ _; rw [add_block]; exact hn275_2) | exact hn275_2) (.string t269)).trans hx275_3
        replace hx275_0 := (cell_far (p := ⟨gb274, 3, none⟩) (by first | (rw [add_block]; exact hn275_3) | (show (Addr.add _ _).block ≠ _; rw [add_block]; exact hn275_3) | exact hn275_3) (.slice (some ad275) t270.length co13)).trans hx275_0
        replace hx275_1 := (cell_far (p := ⟨gb274, 3, none⟩) (by first | (rw [add_block]; exact hn275_3) | (show (Addr.add _ _).block ≠ _; rw [add_block]; exact hn275_3) | exact hn275_3) (.slice (some ad275) t270.length co13)).trans hx275_1
        replace hx275_2 := (cell_far (p := ⟨gb274, 3, none⟩) (by first | (rw [add_block]; exact hn275_3) | (show (Addr.add _ _).block ≠ _; rw [add_block]; exact hn275_3) | exact hn275_3) (.slice (some ad275) t270.length co13)).trans hx275_2
        replace hx275_3 := (cell_far (p := ⟨gb274, 3, none⟩) (by first | (rw [add_block]; exact hn275_3) | (show (Addr.add _ _).block ≠ _; rw [add_block]; exact hn275_3) | exact hn275_3) (.slice (some ad275) t270.length co13)).trans hx275_3
        clear hn275_0
        clear hn275_1
        clear hn275_2
        clear hn275_3
        replace p275 := eq_true p275
        replace q275 := eq_true q275
        go_wp2
        go_meet
        case rel => exact ⟨_, (true), (by first | rfl | (simp; done) | (simp [*]; done)), H', ⟨by first | omega | exact Nat.le_refl _⟩, ⟨kR (Kd.R_mono (Kd.R_far (p := ⟨gb274, 3, none⟩) (Kd.R_far (p := ⟨gb274, 2, none⟩) (Kd.R_far (p := ⟨gb274, 1, none⟩) (Kd.R_far (p := ⟨gb274, 0, none⟩) (Kd.R_mono HO272.out (fun k_ hk => (⟨hk, hk.2⟩ : _ ∧ k_ ≠ gb274))) (fun _ hk => hk.2) (.int .i64 t267)) (fun _ hk => hk.2) (.int .i64 t268)) (fun _ hk => hk.2) (.string t269)) (fun _ hk => hk.2) (.slice (some ad275) t270.length co13)) (fun _ hk => hk.1.2))⟩, ⟨by (with_reducible repeat (first | refine blk_drewN ?_ _ | refine blk_drew ?_ | refine blk_alloc ?_ _)); refine blk_far ?_ NB266_274.out _; (with_reducible repeat (first | refine blk_drewN ?_ _ | refine blk_drew ?_ | refine blk_alloc ?_ _)); refine blk_far ?_ NB266_274.out _; (with_reducible repeat (first | refine blk_drewN ?_ _ | refine blk_drew ?_ | refine blk_alloc ?_ _)); refine blk_far ?_ NB266_274.out _; (with_reducible repeat (first | refine blk_drewN ?_ _ | refine blk_drew ?_ | refine blk_alloc ?_ _)); refine blk_far ?_ NB266_274.out _; (with_reducible repeat (first | refine blk_drewN ?_ _ | refine blk_drew ?_ | refine blk_alloc ?_ _)); exact BK266.out⟩, ⟨by (with_reducible repeat (first | refine blk_drewN ?_ _ | refine blk_drew ?_ | refine blk_alloc ?_ _)); refine blk_put (cs := #[.int .i64 t267, .int .i64 t268, .string t269, .slice none 0 0]) ?_ 3 _ rfl; (with_reducible repeat (first | refine blk_drewN ?_ _ | refine blk_drew ?_ | refine blk_alloc ?_ _)); refine blk_put (cs := #[.int .i64 t267, .int .i64 t268, .string (⟨#[]⟩ : ByteArray), .slice none 0 0]) ?_ 2 _ rfl; (with_reducible repeat (first | refine blk_drewN ?_ _ | refine blk_drew ?_ | refine blk_alloc ?_ _)); refine blk_put (cs := #[.int .i64 t267, .int .i64 0, .string (⟨#[]⟩ : ByteArray), .slice none 0 0]) ?_ 1 _ rfl; (with_reducible repeat (first | refine blk_drewN ?_ _ | refine blk_drew ?_ | refine blk_alloc ?_ _)); refine blk_put (cs := #[.int .i64 0, .int .i64 0, .string (⟨#[]⟩ : ByteArray), .slice none 0 0]) ?_ 0 _ rfl; (with_reducible repeat (first | refine blk_drewN ?_ _ | refine blk_drew ?_ | refine blk_alloc ?_ _)); exact BK274.out⟩, ⟨bb⟩⟩
      ·rw [if_neg c16] at H
       exact absurd H (by simp)
     ·rw [if_neg c15] at H
      have c15b0 : ((t270.length : Int) == 3) = false := beq_eq_false_iff_ne.mpr c15
      have c15b1 : ((t270.length : Int) != 3) = true := bne_iff_ne.mpr c15
      have H' := Aside0.mk H
      clear H
      have hnb27 := NB274_266.out
      have hnc27 := NB266_274.out
      have hcz28_0 : w10.cell? ⟨gb274, 0, none⟩ = some (.int .i64 0) := (blk_cell BK274.out 0).trans rfl
      have hcz28_1 : w10.cell? ⟨gb274, 1, none⟩ = some (.int .i64 0) := (blk_cell BK274.out 1).trans rfl
      have hcz28_2 : w10.cell? ⟨gb274, 2, none⟩ = some (.string (⟨#[]⟩ : ByteArray)) := (blk_cell BK274.out 2).trans rfl
      have hcz28_3 : w10.cell? ⟨gb274, 3, none⟩ = some (.slice none 0 0) := (blk_cell BK274.out 3).trans rfl
      have hfz28_0 := blk_frozen BK274.out 0
      have hfz28_1 := blk_frozen BK274.out 1
      have hfz28_2 := blk_frozen BK274.out 2
      have hfz28_3 := blk_frozen BK274.out 3
      go_wp2
      go_meet
      case rel => exact ⟨_, (true), (by first | rfl | (simp; done) | (simp [*]; done)), H', ⟨by first | omega | exact Nat.le_refl _⟩, ⟨kR (Kd.R_mono (Kd.R_far (p := ⟨gb274, 3, none⟩) (Kd.R_far (p := ⟨gb274, 2, none⟩) (Kd.R_far (p := ⟨gb274, 1, none⟩) (Kd.R_far (p := ⟨gb274, 0, none⟩) (Kd.R_mono HO272.out (fun k_ hk => (⟨hk, hk.2⟩ : _ ∧ k_ ≠ gb274))) (fun _ hk => hk.2) (.int .i64 t267)) (fun _ hk => hk.2) (.int .i64 t268)) (fun _ hk => hk.2) (.string t269)) (fun _ hk => hk.2) (.slice Ao13 t270.length co13)) (fun _ hk => hk.1.2))⟩, ⟨by (with_reducible repeat (first | refine blk_drewN ?_ _ | refine blk_drew ?_ | refine blk_alloc ?_ _)); refine blk_far ?_ NB266_274.out _; (with_reducible repeat (first | refine blk_drewN ?_ _ | refine blk_drew ?_ | refine blk_alloc ?_ _)); refine blk_far ?_ NB266_274.out _; (with_reducible repeat (first | refine blk_drewN ?_ _ | refine blk_drew ?_ | refine blk_alloc ?_ _)); refine blk_far ?_ NB266_274.out _; (with_reducible repeat (first | refine blk_drewN ?_ _ | refine blk_drew ?_ | refine blk_alloc ?_ _)); refine blk_far ?_ NB266_274.out _; (with_reducible repeat (first | refine blk_drewN ?_ _ | refine blk_drew ?_ | refine blk_alloc ?_ _)); exact BK266.out⟩, ⟨by (with_reducible repeat (first | refine blk_drewN ?_ _ | refine blk_drew ?_ | refine blk_alloc ?_ _)); refine blk_put (cs := #[.int .i64 t267, .int .i64 t268, .string t269, .slice none 0 0]) ?_ 3 _ rfl; (with_reducible repeat (first | refine blk_drewN ?_ _ | refine blk_drew ?_ | refine blk_alloc ?_ _)); refine blk_put (cs := #[.int .i64 t267, .int .i64 t268, .string (⟨#[]⟩ : ByteArray), .slice none 0 0]) ?_ 2 _ rfl; (with_reducible repeat (first | refine blk_drewN ?_ _ | refine blk_drew ?_ | refine blk_alloc ?_ _)); refine blk_put (cs := #[.int .i64 t267, .int .i64 0, .string (⟨#[]⟩ : ByteArray), .slice none 0 0]) ?_ 1 _ rfl; (with_reducible repeat (first | refine blk_drewN ?_ _ | refine blk_drew ?_ | refine blk_alloc ?_ _)); refine blk_put (cs := #[.int .i64 0, .int .i64 0, .string (⟨#[]⟩ : ByteArray), .slice none 0 0]) ?_ 0 _ rfl; (with_reducible repeat (first | refine blk_drewN ?_ _ | refine blk_drew ?_ | refine blk_alloc ?_ _)); exact BK274.out⟩, ⟨bb⟩⟩
    ·rw [if_neg c14] at H
     have c14b0 : (t267 == 2) = false := beq_eq_false_iff_ne.mpr c14
     have c14b1 : (t267 != 2) = true := bne_iff_ne.mpr c14
     (first | rw [c14b0] | (simp only [i64_w, i32_w]; rw [c14b0]) | skip)
     have H' := Aside0.mk H
     clear H
     have hnb29 := NB274_266.out
     have hnc29 := NB266_274.out
     have hcz30_0 : w10.cell? ⟨gb274, 0, none⟩ = some (.int .i64 0) := (blk_cell BK274.out 0).trans rfl
     have hcz30_1 : w10.cell? ⟨gb274, 1, none⟩ = some (.int .i64 0) := (blk_cell BK274.out 1).trans rfl
     have hcz30_2 : w10.cell? ⟨gb274, 2, none⟩ = some (.string (⟨#[]⟩ : ByteArray)) := (blk_cell BK274.out 2).trans rfl
     have hcz30_3 : w10.cell? ⟨gb274, 3, none⟩ = some (.slice none 0 0) := (blk_cell BK274.out 3).trans rfl
     have hfz30_0 := blk_frozen BK274.out 0
     have hfz30_1 := blk_frozen BK274.out 1
     have hfz30_2 := blk_frozen BK274.out 2
     have hfz30_3 := blk_frozen BK274.out 3
     go_wp2
     go_meet
     case rel => exact ⟨_, (true), (by first | rfl | (simp; done) | (simp [*]; done)), H', ⟨by first | omega | exact Nat.le_refl _⟩, ⟨kR (Kd.R_mono (Kd.R_far (p := ⟨gb274, 3, none⟩) (Kd.R_far (p := ⟨gb274, 2, none⟩) (Kd.R_far (p := ⟨gb274, 1, none⟩) (Kd.R_far (p := ⟨gb274, 0, none⟩) (Kd.R_mono HO272.out (fun k_ hk => (⟨hk, hk.2⟩ : _ ∧ k_ ≠ gb274))) (fun _ hk => hk.2) (.int .i64 t267)) (fun _ hk => hk.2) (.int .i64 t268)) (fun _ hk => hk.2) (.string t269)) (fun _ hk => hk.2) (.slice Ao13 t270.length co13)) (fun _ hk => hk.1.2))⟩, ⟨by (with_reducible repeat (first | refine blk_drewN ?_ _ | refine blk_drew ?_ | refine blk_alloc ?_ _)); refine blk_far ?_ NB266_274.out _; (with_reducible repeat (first | refine blk_drewN ?_ _ | refine blk_drew ?_ | refine blk_alloc ?_ _)); refine blk_far ?_ NB266_274.out _; (with_reducible repeat (first | refine blk_drewN ?_ _ | refine blk_drew ?_ | refine blk_alloc ?_ _)); refine blk_far ?_ NB266_274.out _; (with_reducible repeat (first | refine blk_drewN ?_ _ | refine blk_drew ?_ | refine blk_alloc ?_ _)); refine blk_far ?_ NB266_274.out _; (with_reducible repeat (first | refine blk_drewN ?_ _ | refine blk_drew ?_ | refine blk_alloc ?_ _)); exact BK266.out⟩, ⟨by (with_reducible repeat (first | refine blk_drewN ?_ _ | refine blk_drew ?_ | refine blk_alloc ?_ _)); refine blk_put (cs := #[.int .i64 t267, .int .i64 t268, .string t269, .slice none 0 0]) ?_ 3 _ rfl; (with_reducible repeat (first | refine blk_drewN ?_ _ | refine blk_drew ?_ | refine blk_alloc ?_ _)); refine blk_put (cs := #[.int .i64 t267, .int .i64 t268, .string (⟨#[]⟩ : ByteArray), .slice none 0 0]) ?_ 2 _ rfl; (with_reducible repeat (first | refine blk_drewN ?_ _ | refine blk_drew ?_ | refine blk_alloc ?_ _)); refine blk_put (cs := #[.int .i64 t267, .int .i64 0, .string (⟨#[]⟩ : ByteArray), .slice none 0 0]) ?_ 1 _ rfl; (with_reducible repeat (first | refine blk_drewN ?_ _ | refine blk_drew ?_ | refine blk_alloc ?_ _)); refine blk_put (cs := #[.int .i64 0, .int .i64 0, .string (⟨#[]⟩ : ByteArray), .slice none 0 0]) ?_ 0 _ rfl; (with_reducible repeat (first | refine blk_drewN ?_ _ | refine blk_drew ?_ | refine blk_alloc ?_ _)); exact BK274.out⟩, ⟨bb⟩⟩
   case rest =>
    clear HC7
    try clear c1
    try clear c2
    try clear c2b0
    try clear c2b1
    try clear p2
    try clear q2
    try clear hx2
    try clear qi2
    try clear c3
    try clear c6
    try clear c6b0
    try clear c6b1
    try clear c7
    try clear c11
    try clear c14
    try clear c14b0
    try clear c14b1
    try clear c15
    try clear c15b0
    try clear c15b1
    try clear c16
    try clear c16b0
    try clear c16b1
    try clear c17
    try clear c17b0
    try clear c17b1
    try clear c18
    try clear c18b0
    try clear c18b1
    try clear c19
    try clear c19b0
    try clear c19b1
    try clear c20
    try clear c20b0
    try clear c20b1
    try clear c21
    try clear c23
    try clear c25
    try clear c27
    try clear p27
    try clear q27
    try clear hx27
    try clear qi27
    try clear c29
    try clear hcz12_0
    try clear hcz12_1
    try clear hcz12_2
    try clear hcz12_3
    try clear hcz22_0
    try clear hcz22_1
    try clear hcz22_2
    try clear hcz22_3
    try clear hcz24_0
    try clear hcz24_1
    try clear hcz24_2
    try clear hcz24_3
    try clear hcz26_0
    try clear hcz26_1
    try clear hcz26_2
    try clear hcz26_3
    try clear hcz28_0
    try clear hcz28_1
    try clear hcz28_2
    try clear hcz28_3
    try clear hcz30_0
    try clear hcz30_1
    try clear hcz30_2
    try clear hcz30_3
    try clear hcz4_0
    try clear hcz4_1
    try clear hcz4_2
    try clear hfz12_0
    try clear hfz12_1
    try clear hfz12_2
    try clear hfz12_3
    try clear hfz22_0
    try clear hfz22_1
    try clear hfz22_2
    try clear hfz22_3
    try clear hfz24_0
    try clear hfz24_1
    try clear hfz24_2
    try clear hfz24_3
    try clear hfz26_0
    try clear hfz26_1
    try clear hfz26_2
    try clear hfz26_3
    try clear hfz28_0
    try clear hfz28_1
    try clear hfz28_2
    try clear hfz28_3
    try clear hfz30_0
    try clear hfz30_1
    try clear hfz30_2
    try clear hfz30_3
    try clear hfz4_0
    try clear hfz4_1
    try clear hfz4_2
    try clear hx275_0
    try clear hx275_1
    try clear hx275_2
    try clear hx275_3
    try clear hx276_0
    try clear hx276_1
    try clear hx276_2
    try clear hx276_3
    try clear hx277_0
    try clear hx277_1
    try clear hx277_2
    try clear hx277_3
    try clear p275
    try clear p276
    try clear p277
    try clear q275
    try clear q276
    try clear q277
    obtain ⟨kq, x20_6, rfl, HA, HJ6, HO_275003, BK266, BK274, HB⟩ := hcut
    cases kq with
    | zero => exact absurd HA.out (by simp [op_Get.j0])
    | succ kj6 =>
     have H := HA.out
     clear HA
     simp only [op_Get.j0] at H
     by_cases c31 : x20_6 = true
     ·subst c31
      have H1 : (some ((⟨#[]⟩ : ByteArray), 0, ([] : List (S54)), 4)) = some (r1, r2, r3, r4) := by rw [if_pos rfl] at H; exact H
      clear H
      have H := H1
      clear H1
      simp only [Option.some.injEq, Prod.mk.injEq] at H
      obtain ⟨rfl, rfl, rfl, rfl⟩ := H
      have hnb32 := NB266_274.out
      have hnc32 := NB274_266.out
      have hcz33_0 : wc.cell? ⟨gb266, 0, none⟩ = some (.string (⟨#[]⟩ : ByteArray)) := (blk_cell BK266.out 0).trans rfl
      have hcz33_1 : wc.cell? ⟨gb266, 1, none⟩ = some (.int .i64 0) := (blk_cell BK266.out 1).trans rfl
      have hcz33_2 : wc.cell? ⟨gb266, 2, none⟩ = some (.slice none 0 0) := (blk_cell BK266.out 2).trans rfl
      have hfz33_0 := blk_frozen BK266.out 0
      have hfz33_1 := blk_frozen BK266.out 1
      have hfz33_2 := blk_frozen BK266.out 2
      go_wp2
      refine bodyPost_ret (results_ct rfl _ _ gb266 75 #[.string (⟨#[]⟩ : ByteArray), .int .i64 0, .slice none 0 0] (0, 0) _ rfl (rb (blk_put (cs := #[.string (⟨#[]⟩ : ByteArray), .int .i64 0, .slice none 0 0]) (rb (blk_put (cs := #[.string (⟨#[]⟩ : ByteArray), .int .i64 0, .slice none 0 0]) (rb (blk_put (cs := #[.string (⟨#[]⟩ : ByteArray), .int .i64 0, .slice none 0 0]) (rb BK266.out) 0 _ rfl)) 1 _ rfl)) 2 _ rfl)) Try.underlying75 rfl (by kernel_rfl)) rfl ?_
      exact ⟨_, by first | rfl | (simp [errW_none, errW_some] <;> rfl) | (simp [*, errW_none, errW_some] <;> rfl), kn, bb⟩
     ·replace c31 := Bool.eq_false_iff.mpr c31
      subst c31
      have H1 : (if 1 < (t270.length : Int) then (if ((rd_T54 t270 1).f1) < 0 then (some ((⟨#[]⟩ : ByteArray), 0, ([] : List (S54)), 4)) else (if ((rd_T54 t270 1).f1) ≥ 10 then (some ((⟨#[]⟩ : ByteArray), 0, ([] : List (S54)), 4)) else (if 0 < (t270.length : Int) then (if 2 < (t270.length : Int) then (some ((rd_T54 t270 0).f2, (rd_T54 t270 1).f1, (rd_T54 t270 2).f3, 0)) else (none)) else (none)))) else (none)) = some (r1, r2, r3, r4) := by rw [if_neg (show ¬ (false = true) by decide)] at H; exact H
      clear H
      have H := H1
      clear H1
      by_cases c34 : 1 < (t270.length : Int)
      ·rw [if_pos c34] at H
       have c34b0 : decide (1 < (t270.length : Int)) = true := decide_eq_true c34
       have c34b1 : decide (1 < t270.length) = true := decide_eq_true (by omega)
       clear c34
       by_cases c35 : ((rd_T54 t270 1).f1) < 0
       ·rw [if_pos c35] at H
        have c35b0 : decide (((rd_T54 t270 1).f1) < 0) = true := decide_eq_true c35
        clear c35
        simp only [Option.some.injEq, Prod.mk.injEq] at H
        obtain ⟨rfl, rfl, rfl, rfl⟩ := H
        have hnb36 := NB274_266.out
        have hnc36 := NB266_274.out
        have hcz37_0 : wc.cell? ⟨gb274, 0, none⟩ = some (.int .i64 t267) := (blk_cell BK274.out 0).trans rfl
        have hcz37_1 : wc.cell? ⟨gb274, 1, none⟩ = some (.int .i64 t268) := (blk_cell BK274.out 1).trans rfl
        have hcz37_2 : wc.cell? ⟨gb274, 2, none⟩ = some (.string t269) := (blk_cell BK274.out 2).trans rfl
        have hcz37_3 : wc.cell? ⟨gb274, 3, none⟩ = some (.slice Ao13 t270.length co13) := (blk_cell BK274.out 3).trans rfl
        have hfz37_0 := blk_frozen BK274.out 0
        have hfz37_1 := blk_frozen BK274.out 1
        have hfz37_2 := blk_frozen BK274.out 2
        have hfz37_3 := blk_frozen BK274.out 3
        have p278 : 0 ≤ (1 : Int) := (by omega)
        have q278 : 1 < (t270.length : Int) := of_decide_eq_true (by first | (with_reducible assumption) | assumption)
        obtain ⟨ad278, A278_3, c278_3, e278, hx278_0, hx278_1, hx278_2, hx278_3, hl278_3, hi278_3⟩ := at_T54 (Kd.R_reads' HO_275003.out).2.2 1 p278 q278
        cases e278
        obtain ⟨ce278, hce278, hMe278, hcc278⟩ := Kd.R_get HO_275003.out z54 1 p278 (by first | exact q278 | exact of_decide_eq_true (by first | (with_reducible assumption) | assumption) | (have e_ := (Kd.R_reads' HO_275003.out).1; omega))
        obtain ⟨ve278_3, rfl, ge278_3⟩ := k54_openM hMe278
        have hv278_3 := hcc278 3 _ rfl
        rw [add_field _ _ 3 (by omega)] at hv278_3
        replace hv278_3 := Option.some.inj (hv278_3.symm.trans hx278_3)
        rw [hv278_3] at ge278_3
        have HL278_3 := Aside0.mk (show Kd.R k54 54 _ _ _ _ ((rd_T54 t270 1).f3) from ge278_3)
        clear hv278_3 ge278_3
        clear hcc278 hce278
        (try simp only [show (1 : Int).toNat = 1 from rfl, Nat.reduceMul, Nat.reduceEqDiff, Go.Addr.add, ↓reduceIte] at hx278_0 hx278_1 hx278_2 hx278_3)
        have qi278 : (1 < t270.length) = True := eq_true (by omega)
        (try rw [show ((1 : Int)).toNat = 1 from rfl] at hx278_0)
        (try rw [show 1 * 4 = 4 from rfl] at hx278_0)
        (try rw [show ((1 : Int)).toNat = 1 from rfl] at hx278_1)
        (try rw [show 1 * 4 = 4 from rfl] at hx278_1)
        (try rw [show ((1 : Int)).toNat = 1 from rfl] at hx278_2)
        (try rw [show 1 * 4 = 4 from rfl] at hx278_2)
        (try rw [show ((1 : Int)).toNat = 1 from rfl] at hx278_3)
        (try rw [show 1 * 4 = 4 from rfl] at hx278_3)
        have HR278_3 := Aside0.mk hi278_3
        have HC278_3 := Aside0.mk hl278_3
        clear hi278_3 hl278_3
        replace p278 := eq_true p278
        replace q278 := eq_true q278
        have hcz38_0 : wc.cell? ⟨gb266, 0, none⟩ = some (.string (⟨#[]⟩ : ByteArray)) := (blk_cell BK266.out 0).trans rfl
        have hcz38_1 : wc.cell? ⟨gb266, 1, none⟩ = some (.int .i64 0) := (blk_cell BK266.out 1).trans rfl
        have hcz38_2 : wc.cell? ⟨gb266, 2, none⟩ = some (.slice none 0 0) := (blk_cell BK266.out 2).trans rfl
        have hfz38_0 := blk_frozen BK266.out 0
        have hfz38_1 := blk_frozen BK266.out 1
        have hfz38_2 := blk_frozen BK266.out 2
        go_wp2
        refine bodyPost_ret (results_ct rfl _ _ gb266 75 #[.string (⟨#[]⟩ : ByteArray), .int .i64 0, .slice none 0 0] (0, 0) _ rfl (rb (blk_put (cs := #[.string (⟨#[]⟩ : ByteArray), .int .i64 0, .slice none 0 0]) (rb (blk_put (cs := #[.string (⟨#[]⟩ : ByteArray), .int .i64 0, .slice none 0 0]) (rb (blk_put (cs := #[.string (⟨#[]⟩ : ByteArray), .int .i64 0, .slice none 0 0]) (rb BK266.out) 0 _ rfl)) 1 _ rfl)) 2 _ rfl)) Try.underlying75 rfl (by kernel_rfl)) rfl ?_
        exact ⟨_, by first | rfl | (simp [errW_none, errW_some] <;> rfl) | (simp [*, errW_none, errW_some] <;> rfl), kn, bb⟩
       ·rw [if_neg c35] at H
        have c35b0 : decide (((rd_T54 t270 1).f1) < 0) = false := decide_eq_false c35
        clear c35
        by_cases c39 : ((rd_T54 t270 1).f1) ≥ 10
        ·rw [if_pos c39] at H
         have c39b0 : decide (10 ≤ ((rd_T54 t270 1).f1)) = true := decide_eq_true c39
         clear c39
         simp only [Option.some.injEq, Prod.mk.injEq] at H
         obtain ⟨rfl, rfl, rfl, rfl⟩ := H
         have hnb40 := NB274_266.out
         have hnc40 := NB266_274.out
         have hcz41_0 : wc.cell? ⟨gb274, 0, none⟩ = some (.int .i64 t267) := (blk_cell BK274.out 0).trans rfl
         have hcz41_1 : wc.cell? ⟨gb274, 1, none⟩ = some (.int .i64 t268) := (blk_cell BK274.out 1).trans rfl
         have hcz41_2 : wc.cell? ⟨gb274, 2, none⟩ = some (.string t269) := (blk_cell BK274.out 2).trans rfl
         have hcz41_3 : wc.cell? ⟨gb274, 3, none⟩ = some (.slice Ao13 t270.length co13) := (blk_cell BK274.out 3).trans rfl
         have hfz41_0 := blk_frozen BK274.out 0
         have hfz41_1 := blk_frozen BK274.out 1
         have hfz41_2 := blk_frozen BK274.out 2
         have hfz41_3 := blk_frozen BK274.out 3
         have p278 : 0 ≤ (1 : Int) := (by omega)
         have q278 : 1 < (t270.length : Int) := of_decide_eq_true (by first | (with_reducible assumption) | assumption)
         obtain ⟨ad278, A278_3, c278_3, e278, hx278_0, hx278_1, hx278_2, hx278_3, hl278_3, hi278_3⟩ := at_T54 (Kd.R_reads' HO_275003.out).2.2 1 p278 q278
         cases e278
         obtain ⟨ce278, hce278, hMe278, hcc278⟩ := Kd.R_get HO_275003.out z54 1 p278 (by first | exact q278 | exact of_decide_eq_true (by first | (with_reducible assumption) | assumption) | (have e_ := (Kd.R_reads' HO_275003.out).1; omega))
         obtain ⟨ve278_3, rfl, ge278_3⟩ := k54_openM hMe278
         have hv278_3 := hcc278 3 _ rfl
         rw [add_field _ _ 3 (by omega)] at hv278_3
         replace hv278_3 := Option.some.inj (hv278_3.symm.trans hx278_3)
         rw [hv278_3] at ge278_3
         have HL278_3 := Aside0.mk (show Kd.R k54 54 _ _ _ _ ((rd_T54 t270 1).f3) from ge278_3)
         clear hv278_3 ge278_3
         clear hcc278 hce278
         (try simp only [show (1 : Int).toNat = 1 from rfl, Nat.reduceMul, Nat.reduceEqDiff, Go.Addr.add, ↓reduceIte] at hx278_0 hx278_1 hx278_2 hx278_3)
         have qi278 : (1 < t270.length) = True := eq_true (by omega)
         (try rw [show ((1 : Int)).toNat = 1 from rfl] at hx278_0)
         (try rw [show 1 * 4 = 4 from rfl] at hx278_0)
         (try rw [show ((1 : Int)).toNat = 1 from rfl] at hx278_1)
         (try rw [show 1 * 4 = 4 from rfl] at hx278_1)
         (try rw [show ((1 : Int)).toNat = 1 from rfl] at hx278_2)
         (try rw [show 1 * 4 = 4 from rfl] at hx278_2)
         (try rw [show ((1 : Int)).toNat = 1 from rfl] at hx278_3)
         (try rw [show 1 * 4 = 4 from rfl] at hx278_3)
         have HR278_3 := Aside0.mk hi278_3
         have HC278_3 := Aside0.mk hl278_3
         clear hi278_3 hl278_3
         replace p278 := eq_true p278
         replace q278 := eq_true q278
         have p279 : 0 ≤ (1 : Int) := (by omega)
         have q279 : 1 < (t270.length : Int) := of_decide_eq_true (by first | (with_reducible assumption) | assumption)
         obtain ⟨ad279, A279_3, c279_3, e279, hx279_0, hx279_1, hx279_2, hx279_3, hl279_3, hi279_3⟩ := at_T54 (Kd.R_reads' HO_275003.out).2.2 1 p279 q279
         obtain rfl : ad278 = ad279 := (by injection e279)
         obtain ⟨ce279, hce279, hMe279, hcc279⟩ := Kd.R_get HO_275003.out z54 1 p279 (by first | exact q279 | exact of_decide_eq_true (by first | (with_reducible assumption) | assumption) | (have e_ := (Kd.R_reads' HO_275003.out).1; omega))
         obtain ⟨ve279_3, rfl, ge279_3⟩ := k54_openM hMe279
         have hv279_3 := hcc279 3 _ rfl
         rw [add_field _ _ 3 (by omega)] at hv279_3
         replace hv279_3 := Option.some.inj (hv279_3.symm.trans hx279_3)
         rw [hv279_3] at ge279_3
         have HL279_3 := Aside0.mk (show Kd.R k54 54 _ _ _ _ ((rd_T54 t270 1).f3) from ge279_3)
         clear hv279_3 ge279_3
         clear hcc279 hce279
         (try simp only [show (1 : Int).toNat = 1 from rfl, Nat.reduceMul, Nat.reduceEqDiff, Go.Addr.add, ↓reduceIte] at hx279_0 hx279_1 hx279_2 hx279_3)
         have qi279 : (1 < t270.length) = True := eq_true (by omega)
         (try rw [show ((1 : Int)).toNat = 1 from rfl] at hx279_0)
         (try rw [show 1 * 4 = 4 from rfl] at hx279_0)
         (try rw [show ((1 : Int)).toNat = 1 from rfl] at hx279_1)
         (try rw [show 1 * 4 = 4 from rfl] at hx279_1)
         (try rw [show ((1 : Int)).toNat = 1 from rfl] at hx279_2)
         (try rw [show 1 * 4 = 4 from rfl] at hx279_2)
         (try rw [show ((1 : Int)).toNat = 1 from rfl] at hx279_3)
         (try rw [show 1 * 4 = 4 from rfl] at hx279_3)
         have HR279_3 := Aside0.mk hi279_3
         have HC279_3 := Aside0.mk hl279_3
         clear hi279_3 hl279_3
         replace p279 := eq_true p279
         replace q279 := eq_true q279
         have ea_ := Option.some.inj (hx278_3.symm.trans hx279_3)
         injection ea_ with ea_ en_ ec_
         subst ea_
         subst ec_
         clear en_
         have hcz42_0 : wc.cell? ⟨gb266, 0, none⟩ = some (.string (⟨#[]⟩ : ByteArray)) := (blk_cell BK266.out 0).trans rfl
         have hcz42_1 : wc.cell? ⟨gb266, 1, none⟩ = some (.int .i64 0) := (blk_cell BK266.out 1).trans rfl
         have hcz42_2 : wc.cell? ⟨gb266, 2, none⟩ = some (.slice none 0 0) := (blk_cell BK266.out 2).trans rfl
         have hfz42_0 := blk_frozen BK266.out 0
         have hfz42_1 := blk_frozen BK266.out 1
         have hfz42_2 := blk_frozen BK266.out 2
         go_wp2
         refine bodyPost_ret (results_ct rfl _ _ gb266 75 #[.string (⟨#[]⟩ : ByteArray), .int .i64 0, .slice none 0 0] (0, 0) _ rfl (rb (blk_put (cs := #[.string (⟨#[]⟩ : ByteArray), .int .i64 0, .slice none 0 0]) (rb (blk_put (cs := #[.string (⟨#[]⟩ : ByteArray), .int .i64 0, .slice none 0 0]) (rb (blk_put (cs := #[.string (⟨#[]⟩ : ByteArray), .int .i64 0, .slice none 0 0]) (rb BK266.out) 0 _ rfl)) 1 _ rfl)) 2 _ rfl)) Try.underlying75 rfl (by kernel_rfl)) rfl ?_
         exact ⟨_, by first | rfl | (simp [errW_none, errW_some] <;> rfl) | (simp [*, errW_none, errW_some] <;> rfl), kn, bb⟩
        ·rw [if_neg c39] at H
         have c39b0 : decide (10 ≤ ((rd_T54 t270 1).f1)) = false := decide_eq_false c39
         clear c39
         by_cases c43 : 0 < (t270.length : Int)
         ·rw [if_pos c43] at H
          have c43b0 : decide (0 < (t270.length : Int)) = true := decide_eq_true c43
          have c43b1 : decide (0 < t270.length) = true := decide_eq_true (by omega)
          clear c43
          by_cases c44 : 2 < (t270.length : Int)
          ·rw [if_pos c44] at H
           have c44b0 : decide (2 < (t270.length : Int)) = true := decide_eq_true c44
           have c44b1 : decide (2 < t270.length) = true := decide_eq_true (by omega)
           clear c44
           simp only [Option.some.injEq, Prod.mk.injEq] at H
           obtain ⟨rfl, rfl, rfl, rfl⟩ := H
           have hnb45 := NB274_266.out
           have hnc45 := NB266_274.out
           have hcz46_0 : wc.cell? ⟨gb274, 0, none⟩ = some (.int .i64 t267) := (blk_cell BK274.out 0).trans rfl
           have hcz46_1 : wc.cell? ⟨gb274, 1, none⟩ = some (.int .i64 t268) := (blk_cell BK274.out 1).trans rfl
           have hcz46_2 : wc.cell? ⟨gb274, 2, none⟩ = some (.string t269) := (blk_cell BK274.out 2).trans rfl
           have hcz46_3 : wc.cell? ⟨gb274, 3, none⟩ = some (.slice Ao13 t270.length co13) := (blk_cell BK274.out 3).trans rfl
           have hfz46_0 := blk_frozen BK274.out 0
           have hfz46_1 := blk_frozen BK274.out 1
           have hfz46_2 := blk_frozen BK274.out 2
           have hfz46_3 := blk_frozen BK274.out 3
           have p278 : 0 ≤ (1 : Int) := (by omega)
           have q278 : 1 < (t270.length : Int) := of_decide_eq_true (by first | (with_reducible assumption) | assumption)
           obtain ⟨ad278, A278_3, c278_3, e278, hx278_0, hx278_1, hx278_2, hx278_3, hl278_3, hi278_3⟩ := at_T54 (Kd.R_reads' HO_275003.out).2.2 1 p278 q278
           cases e278
           obtain ⟨ce278, hce278, hMe278, hcc278⟩ := Kd.R_get HO_275003.out z54 1 p278 (by first | exact q278 | exact of_decide_eq_true (by first | (with_reducible assumption) | assumption) | (have e_ := (Kd.R_reads' HO_275003.out).1; omega))
           obtain ⟨ve278_3, rfl, ge278_3⟩ := k54_openM hMe278
           have hv278_3 := hcc278 3 _ rfl
           rw [add_field _ _ 3 (by omega)] at hv278_3
           replace hv278_3 := Option.some.inj (hv278_3.symm.trans hx278_3)
           rw [hv278_3] at ge278_3
           have HL278_3 := Aside0.mk (show Kd.R k54 54 _ _ _ _ ((rd_T54 t270 1).f3) from ge278_3)
           clear hv278_3 ge278_3
           clear hcc278 hce278
           (try simp only [show (1 : Int).toNat = 1 from rfl, Nat.reduceMul, Nat.reduceEqDiff, Go.Addr.add, ↓reduceIte] at hx278_0 hx278_1 hx278_2 hx278_3)
           have qi278 : (1 < t270.length) = True := eq_true (by omega)
           (try rw [show ((1 : Int)).toNat = 1 from rfl] at hx278_0)
           (try rw [show 1 * 4 = 4 from rfl] at hx278_0)
           (try rw [show ((1 : Int)).toNat = 1 from rfl] at hx278_1)
           (try rw [show 1 * 4 = 4 from rfl] at hx278_1)
           (try rw [show ((1 : Int)).toNat = 1 from rfl] at hx278_2)
           (try rw [show 1 * 4 = 4 from rfl] at hx278_2)
           (try rw [show ((1 : Int)).toNat = 1 from rfl] at hx278_3)
           (try rw [show 1 * 4 = 4 from rfl] at hx278_3)
           have HR278_3 := Aside0.mk hi278_3
           have HC278_3 := Aside0.mk hl278_3
           clear hi278_3 hl278_3
           replace p278 := eq_true p278
           replace q278 := eq_true q278
           have p279 : 0 ≤ (1 : Int) := (by omega)
           have q279 : 1 < (t270.length : Int) := of_decide_eq_true (by first | (with_reducible assumption) | assumption)
           obtain ⟨ad279, A279_3, c279_3, e279, hx279_0, hx279_1, hx279_2, hx279_3, hl279_3, hi279_3⟩ := at_T54 (Kd.R_reads' HO_275003.out).2.2 1 p279 q279
           obtain rfl : ad278 = ad279 := (by injection e279)
           obtain ⟨ce279, hce279, hMe279, hcc279⟩ := Kd.R_get HO_275003.out z54 1 p279 (by first | exact q279 | exact of_decide_eq_true (by first | (with_reducible assumption) | assumption) | (have e_ := (Kd.R_reads' HO_275003.out).1; omega))
           obtain ⟨ve279_3, rfl, ge279_3⟩ := k54_openM hMe279
           have hv279_3 := hcc279 3 _ rfl
           rw [add_field _ _ 3 (by omega)] at hv279_3
           replace hv279_3 := Option.some.inj (hv279_3.symm.trans hx279_3)
           rw [hv279_3] at ge279_3
           have HL279_3 := Aside0.mk (show Kd.R k54 54 _ _ _ _ ((rd_T54 t270 1).f3) from ge279_3)
           clear hv279_3 ge279_3
           clear hcc279 hce279
           (try simp only [show (1 : Int).toNat = 1 from rfl, Nat.reduceMul, Nat.reduceEqDiff, Go.Addr.add, ↓reduceIte] at hx279_0 hx279_1 hx279_2 hx279_3)
           have qi279 : (1 < t270.length) = True := eq_true (by omega)
           (try rw [show ((1 : Int)).toNat = 1 from rfl] at hx279_0)
           (try rw [show 1 * 4 = 4 from rfl] at hx279_0)
           (try rw [show ((1 : Int)).toNat = 1 from rfl] at hx279_1)
           (try rw [show 1 * 4 = 4 from rfl] at hx279_1)
           (try rw [show ((1 : Int)).toNat = 1 from rfl] at hx279_2)
           (try rw [show 1 * 4 = 4 from rfl] at hx279_2)
           (try rw [show ((1 : Int)).toNat = 1 from rfl] at hx279_3)
           (try rw [show 1 * 4 = 4 from rfl] at hx279_3)
           have HR279_3 := Aside0.mk hi279_3
           have HC279_3 := Aside0.mk hl279_3
           clear hi279_3 hl279_3
           replace p279 := eq_true p279
           replace q279 := eq_true q279
           have ea_ := Option.some.inj (hx278_3.symm.trans hx279_3)
           injection ea_ with ea_ en_ ec_
           subst ea_
           subst ec_
           clear en_
           try go_wp2
           have n0_ := Aside0.mk (Kd.R_drew HO_275003.out)
           have n1_ := Aside0.mk (Kd.R_drew HL278_3.out)
           have n2_ := Aside0.mk (Kd.R_drew HL279_3.out)
           have n3_ := Aside0.mk (blk_drew BK266.out)
           have n4_ := Aside0.mk (blk_drew BK274.out)
           have n5_ := Aside0.mk (Kd.C_drew HR278_3.out)
           have n6_ := Aside0.mk (Kd.C_drew HR279_3.out)
           have n7_ := Aside0.mk (below_drew1 HB.out)
           clear HO_275003
           clear HL278_3
           clear HL279_3
           clear BK266
           clear BK274
           clear HR278_3
           clear HR279_3
           clear HB
           have HO_275003 := n0_
           have HL278_3 := n1_
           have HL279_3 := n2_
           have BK266 := n3_
           have BK274 := n4_
           have HR278_3 := n5_
           have HR279_3 := n6_
           have HB := n7_
           clear n0_ n1_ n2_ n3_ n4_ n5_ n6_ n7_
           have p280 : 0 ≤ (0 : Int) := (by omega)
           have q280 : 0 < (t270.length : Int) := of_decide_eq_true (by first | (with_reducible assumption) | assumption)
           obtain ⟨ad280, A280_3, c280_3, e280, hx280_0, hx280_1, hx280_2, hx280_3, hl280_3, hi280_3⟩ := at_T54 (Kd.R_reads' HO_275003.out).2.2 0 p280 q280
           obtain rfl : ad278 = ad280 := (by injection e280)
           obtain ⟨ce280, hce280, hMe280, hcc280⟩ := Kd.R_get HO_275003.out z54 0 p280 (by first | exact q280 | exact of_decide_eq_true (by first | (with_reducible assumption) | assumption) | (have e_ := (Kd.R_reads' HO_275003.out).1; omega))
           obtain ⟨ve280_3, rfl, ge280_3⟩ := k54_openM hMe280
           have hv280_3 := hcc280 3 _ rfl
           rw [add_field _ _ 3 (by omega)] at hv280_3
           replace hv280_3 := Option.some.inj (hv280_3.symm.trans hx280_3)
           rw [hv280_3] at ge280_3
           have HL280_3 := Aside0.mk (show Kd.R k54 54 _ _ _ _ ((rd_T54 t270 0).f3) from ge280_3)
           clear hv280_3 ge280_3
           clear hcc280 hce280
           have qi280 : (0 < t270.length) = True := eq_true (by omega)
           (try rw [show ((0 : Int)).toNat = 0 from rfl] at hx280_0)
           (try rw [show 0 * 4 = 0 from rfl] at hx280_0)
           (try rw [Addr.add_zero'] at hx280_0)
           (try rw [show ((0 : Int)).toNat = 0 from rfl] at hx280_1)
           (try rw [show 0 * 4 = 0 from rfl] at hx280_1)
           (try rw [Addr.add_zero'] at hx280_1)
           (try rw [show ((0 : Int)).toNat = 0 from rfl] at hx280_2)
           (try rw [show 0 * 4 = 0 from rfl] at hx280_2)
           (try rw [Addr.add_zero'] at hx280_2)
           (try rw [show ((0 : Int)).toNat = 0 from rfl] at hx280_3)
           (try rw [show 0 * 4 = 0 from rfl] at hx280_3)
           (try rw [Addr.add_zero'] at hx280_3)
           have HR280_3 := Aside0.mk hi280_3
           have HC280_3 := Aside0.mk hl280_3
           clear hi280_3 hl280_3
           replace p280 := eq_true p280
           replace q280 := eq_true q280
           have p281 : 0 ≤ (1 : Int) := (by omega)
           have q281 : 1 < (t270.length : Int) := of_decide_eq_true (by first | (with_reducible assumption) | assumption)
           obtain ⟨ad281, A281_3, c281_3, e281, hx281_0, hx281_1, hx281_2, hx281_3, hl281_3, hi281_3⟩ := at_T54 (Kd.R_reads' HO_275003.out).2.2 1 p281 q281
           obtain rfl : ad278 = ad281 := (by injection e281)
           obtain ⟨ce281, hce281, hMe281, hcc281⟩ := Kd.R_get HO_275003.out z54 1 p281 (by first | exact q281 | exact of_decide_eq_true (by first | (with_reducible assumption) | assumption) | (have e_ := (Kd.R_reads' HO_275003.out).1; omega))
           obtain ⟨ve281_3, rfl, ge281_3⟩ := k54_openM hMe281
           have hv281_3 := hcc281 3 _ rfl
           rw [add_field _ _ 3 (by omega)] at hv281_3
           replace hv281_3 := Option.some.inj (hv281_3.symm.trans hx281_3)
           rw [hv281_3] at ge281_3
           have HL281_3 := Aside0.mk (show Kd.R k54 54 _ _ _ _ ((rd_T54 t270 1).f3) from ge281_3)
           clear hv281_3 ge281_3
           clear hcc281 hce281
           (try simp only [show (1 : Int).toNat = 1 from rfl, Nat.reduceMul, Nat.reduceEqDiff, Go.Addr.add, ↓reduceIte] at hx281_0 hx281_1 hx281_2 hx281_3)
           have qi281 : (1 < t270.length) = True := eq_true (by omega)
           (try rw [show ((1 : Int)).toNat = 1 from rfl] at hx281_0)
           (try rw [show 1 * 4 = 4 from rfl] at hx281_0)
           (try rw [show ((1 : Int)).toNat = 1 from rfl] at hx281_1)
           (try rw [show 1 * 4 = 4 from rfl] at hx281_1)
           (try rw [show ((1 : Int)).toNat = 1 from rfl] at hx281_2)
           (try rw [show 1 * 4 = 4 from rfl] at hx281_2)
           (try rw [show ((1 : Int)).toNat = 1 from rfl] at hx281_3)
           (try rw [show 1 * 4 = 4 from rfl] at hx281_3)
           have HR281_3 := Aside0.mk hi281_3
           have HC281_3 := Aside0.mk hl281_3
           clear hi281_3 hl281_3
           replace p281 := eq_true p281
           replace q281 := eq_true q281
           have p282 : 0 ≤ (2 : Int) := (by omega)
           have q282 : 2 < (t270.length : Int) := of_decide_eq_true (by first | (with_reducible assumption) | assumption)
           obtain ⟨ad282, A282_3, c282_3, e282, hx282_0, hx282_1, hx282_2, hx282_3, hl282_3, hi282_3⟩ := at_T54 (Kd.R_reads' HO_275003.out).2.2 2 p282 q282
           obtain rfl : ad278 = ad282 := (by injection e282)
           obtain ⟨ce282, hce282, hMe282, hcc282⟩ := Kd.R_get HO_275003.out z54 2 p282 (by first | exact q282 | exact of_decide_eq_true (by first | (with_reducible assumption) | assumption) | (have e_ := (Kd.R_reads' HO_275003.out).1; omega))
           obtain ⟨ve282_3, rfl, ge282_3⟩ := k54_openM hMe282
           have hv282_3 := hcc282 3 _ rfl
           rw [add_field _ _ 3 (by omega)] at hv282_3
           replace hv282_3 := Option.some.inj (hv282_3.symm.trans hx282_3)
           rw [hv282_3] at ge282_3
           have HL282_3 := Aside0.mk (show Kd.R k54 54 _ _ _ _ ((rd_T54 t270 2).f3) from ge282_3)
           clear hv282_3 ge282_3
           clear hcc282 hce282
           (try simp only [show (2 : Int).toNat = 2 from rfl, Nat.reduceMul, Nat.reduceEqDiff, Go.Addr.add, ↓reduceIte] at hx282_0 hx282_1 hx282_2 hx282_3)
           have qi282 : (2 < t270.length) = True := eq_true (by omega)
           (try rw [show ((2 : Int)).toNat = 2 from rfl] at hx282_0)
           (try rw [show 2 * 4 = 8 from rfl] at hx282_0)
           (try rw [show ((2 : Int)).toNat = 2 from rfl] at hx282_1)
           (try rw [show 2 * 4 = 8 from rfl] at hx282_1)
           (try rw [show ((2 : Int)).toNat = 2 from rfl] at hx282_2)
           (try rw [show 2 * 4 = 8 from rfl] at hx282_2)
           (try rw [show ((2 : Int)).toNat = 2 from rfl] at hx282_3)
           (try rw [show 2 * 4 = 8 from rfl] at hx282_3)
           have HR282_3 := Aside0.mk hi282_3
           have HC282_3 := Aside0.mk hl282_3
           clear hi282_3 hl282_3
           replace p282 := eq_true p282
           replace q282 := eq_true q282
           refine start_ (n := 18) (S := fun w' => w'.cell? ⟨gb274, 0, none⟩ = some (.int .i64 t267) ∧ w'.cell? ⟨gb274, 1, none⟩ = some (.int .i64 t268) ∧ w'.cell? ⟨gb274, 2, none⟩ = some (.string t269) ∧ w'.cell? ⟨gb274, 3, none⟩ = some (.slice (some ad278) t270.length co13) ∧ w'.cell? ad278 = some (.int .i64 ((rd_T54 t270 0).f0)) ∧ w'.cell? ⟨ad278.block, ad278.off + 1, none⟩ = some (.int .i64 ((rd_T54 t270 0).f1)) ∧ w'.cell? ⟨ad278.block, ad278.off + 2, none⟩ = some (.string ((rd_T54 t270 0).f2)) ∧ w'.cell? ⟨ad278.block, ad278.off + 3, none⟩ = some (.slice A280_3 ((rd_T54 t270 0).f3).length c280_3) ∧ w'.cell? ⟨ad278.block, ad278.off + 4, none⟩ = some (.int .i64 ((rd_T54 t270 1).f0)) ∧ w'.cell? ⟨ad278.block, ad278.off + 4 + 1, none⟩ = some (.int .i64 ((rd_T54 t270 1).f1)) ∧ w'.cell? ⟨ad278.block, ad278.off + 4 + 2, none⟩ = some (.string ((rd_T54 t270 1).f2)) ∧ w'.cell? ⟨ad278.block, ad278.off + 4 + 3, none⟩ = some (.slice A281_3 ((rd_T54 t270 1).f3).length c281_3) ∧ w'.cell? ⟨ad278.block, ad278.off + 8, none⟩ = some (.int .i64 ((rd_T54 t270 2).f0)) ∧ w'.cell? ⟨ad278.block, ad278.off + 8 + 1, none⟩ = some (.int .i64 ((rd_T54 t270 2).f1)) ∧ w'.cell? ⟨ad278.block, ad278.off + 8 + 2, none⟩ = some (.string ((rd_T54 t270 2).f2)) ∧ w'.cell? ⟨ad278.block, ad278.off + 8 + 3, none⟩ = some (.slice A282_3 ((rd_T54 t270 2).f3).length c282_3)) (ds := []) #[false, false, false, false, false, false, false, false, false, false, false, false, false, false, false, false, false, false] (by kernel_rfl) rfl rfl ⟨(blk_cell BK274.out 0).trans rfl, (blk_cell BK274.out 1).trans rfl, (blk_cell BK274.out 2).trans rfl, (blk_cell BK274.out 3).trans rfl, hx280_0, hx280_1, hx280_2, hx280_3, hx281_0, hx281_1, hx281_2, hx281_3, hx282_0, hx282_1, hx282_2, hx282_3⟩ (fun hHeld => ?_); refine with_tabW op_Get.tab10 op_Get.bits10 (fun HT_ HW_ => ?_)
           generalize wc.drew = w47 at HO_275003 HL278_3 HL279_3 BK266 BK274 HR278_3 HR279_3 HB HL280_3 HL281_3 HL282_3 HR280_3 HR281_3 HR282_3 hx280_0 hx280_1 hx280_2 hx280_3 hx281_0 hx281_1 hx281_2 hx281_3 hx282_0 hx282_1 hx282_2 hx282_3 hHeld ⊢
           refine pure_ (i := 0) (N := some 71) (v := ?_) (a' := ?_) #[true, false, false, false, false, false, false, false, false, false, false, false, false, false, false, false, false, false] rfl rfl (any_of HT_.out (by kernel_rfl)) (fun _ _ _ h => h) (Or.inl ⟨by rfl, ?_⟩) ?_ ?_
           rotate_left
           ·intro w'
            go_simp
            with_reducible rfl
           rotate_left
           ·simp only [Act.put, List.setIfInBounds_toArray, List.set_cons_zero, List.set_cons_succ, i64_w, i32_w]
            rfl
           refine pure_ (i := 5) (N := some 76) (v := ?_) (a' := ?_) #[true, false, false, false, false, true, false, false, false, false, false, false, false, false, false, false, false, false] rfl rfl (any_of HT_.out (by kernel_rfl)) (fun _ _ _ h => h) (Or.inl ⟨by rfl, ?_⟩) ?_ ?_
           rotate_left
           ·intro w'
            go_simp
            with_reducible rfl
           rotate_left
           ·simp only [Act.put, List.setIfInBounds_toArray, List.set_cons_zero, List.set_cons_succ, i64_w, i32_w]
            rfl
           refine pure_ (i := 10) (N := some 81) (v := ?_) (a' := ?_) #[true, false, false, false, false, true, false, false, false, false, true, false, false, false, false, false, false, false] rfl rfl (any_of HT_.out (by kernel_rfl)) (fun _ _ _ h => h) (Or.inl ⟨by rfl, ?_⟩) ?_ ?_
           rotate_left
           ·intro w'
            go_simp
            with_reducible rfl
           rotate_left
           ·simp only [Act.put, List.setIfInBounds_toArray, List.set_cons_zero, List.set_cons_succ, i64_w, i32_w]
            rfl
           refine take_ (i := 1) (N := some 72) (v := ?_) (a' := ?_) #[true, true, false, false, false, true, false, false, false, false, true, false, false, false, false, false, false, false] rfl rfl (take_ofW HT_.out HW_.out (by kernel_rfl)) (fun _ _ _ h => h) (Or.inl ⟨by rfl, ?_⟩) hHeld ?_ ?_
           rotate_left
           ·rintro w' ⟨s0, s1, s2, s3, s4, s5, s6, s7, s8, s9, s10, s11, s12, s13, s14, s15⟩
            go_simp
            with_reducible rfl
           rotate_left
           ·simp only [Act.put, List.setIfInBounds_toArray, List.set_cons_zero, List.set_cons_succ, i64_w, i32_w]
            rfl
           refine pure_ (i := 2) (N := some 73) (v := ?_) (a' := ?_) #[true, true, true, false, false, true, false, false, false, false, true, false, false, false, false, false, false, false] rfl rfl (any_of HT_.out (by kernel_rfl)) (fun _ _ _ h => h) (Or.inl ⟨by rfl, ?_⟩) ?_ ?_
           rotate_left
           ·intro w'
            go_simp
            with_reducible rfl
           rotate_left
           ·simp only [Act.put, List.setIfInBounds_toArray, List.set_cons_zero, List.set_cons_succ, i64_w, i32_w]
            rfl
           refine pure_ (i := 3) (N := some 74) (v := ?_) (a' := ?_) #[true, true, true, true, false, true, false, false, false, false, true, false, false, false, false, false, false, false] rfl rfl (any_of HT_.out (by kernel_rfl)) (fun _ _ _ h => h) (Or.inl ⟨by rfl, ?_⟩) ?_ ?_
           rotate_left
           ·intro w'
            go_simp
            with_reducible rfl
           rotate_left
           ·simp only [Act.put, List.setIfInBounds_toArray, List.set_cons_zero, List.set_cons_succ, i64_w, i32_w]
            rfl
           refine take_ (i := 4) (N := some 75) (v := ?_) (a' := ?_) #[true, true, true, true, true, true, false, false, false, false, true, false, false, false, false, false, false, false] rfl rfl (take_ofW HT_.out HW_.out (by kernel_rfl)) (fun _ _ _ h => h) (Or.inl ⟨by rfl, ?_⟩) hHeld ?_ ?_
           rotate_left
           ·rintro w' ⟨s0, s1, s2, s3, s4, s5, s6, s7, s8, s9, s10, s11, s12, s13, s14, s15⟩
            go_simp
            with_reducible rfl
           rotate_left
           ·simp only [Act.put, List.setIfInBounds_toArray, List.set_cons_zero, List.set_cons_succ, i64_w, i32_w]
            rfl
           refine take_ (i := 6) (N := some 77) (v := ?_) (a' := ?_) #[true, true, true, true, true, true, true, false, false, false, true, false, false, false, false, false, false, false] rfl rfl (take_ofW HT_.out HW_.out (by kernel_rfl)) (fun _ _ _ h => h) (Or.inl ⟨by rfl, ?_⟩) hHeld ?_ ?_
           rotate_left
           ·rintro w' ⟨s0, s1, s2, s3, s4, s5, s6, s7, s8, s9, s10, s11, s12, s13, s14, s15⟩
            go_simp
            with_reducible rfl
           rotate_left
           ·simp only [Act.put, List.setIfInBounds_toArray, List.set_cons_zero, List.set_cons_succ, i64_w, i32_w]
            rfl
           refine pure_ (i := 7) (N := some 78) (v := ?_) (a' := ?_) #[true, true, true, true, true, true, true, true, false, false, true, false, false, false, false, false, false, false] rfl rfl (any_of HT_.out (by kernel_rfl)) (fun _ _ _ h => h) (Or.inl ⟨by rfl, ?_⟩) ?_ ?_
           rotate_left
           ·intro w'
            go_simp
            with_reducible rfl
           rotate_left
           ·simp only [Act.put, List.setIfInBounds_toArray, List.set_cons_zero, List.set_cons_succ, i64_w, i32_w]
            rfl
           refine pure_ (i := 8) (N := some 79) (v := ?_) (a' := ?_) #[true, true, true, true, true, true, true, true, true, false, true, false, false, false, false, false, false, false] rfl rfl (any_of HT_.out (by kernel_rfl)) (fun _ _ _ h => h) (Or.inl ⟨by rfl, ?_⟩) ?_ ?_
           rotate_left
           ·intro w'
            go_simp
            with_reducible rfl
           rotate_left
           ·simp only [Act.put, List.setIfInBounds_toArray, List.set_cons_zero, List.set_cons_succ, i64_w, i32_w]
            rfl
           refine take_ (i := 9) (N := some 80) (v := ?_) (a' := ?_) #[true, true, true, true, true, true, true, true, true, true, true, false, false, false, false, false, false, false] rfl rfl (take_ofW HT_.out HW_.out (by kernel_rfl)) (fun _ _ _ h => h) (Or.inl ⟨by rfl, ?_⟩) hHeld ?_ ?_
           rotate_left
           ·rintro w' ⟨s0, s1, s2, s3, s4, s5, s6, s7, s8, s9, s10, s11, s12, s13, s14, s15⟩
            go_simp
            with_reducible rfl
           rotate_left
           ·simp only [Act.put, List.setIfInBounds_toArray, List.set_cons_zero, List.set_cons_succ, i64_w, i32_w]
            rfl
           refine take_ (i := 11) (N := some 82) (v := ?_) (a' := ?_) #[true, true, true, true, true, true, true, true, true, true, true, true, false, false, false, false, false, false] rfl rfl (take_ofW HT_.out HW_.out (by kernel_rfl)) (fun _ _ _ h => h) (Or.inl ⟨by rfl, ?_⟩) hHeld ?_ ?_
           rotate_left
           ·rintro w' ⟨s0, s1, s2, s3, s4, s5, s6, s7, s8, s9, s10, s11, s12, s13, s14, s15⟩
            go_simp
            with_reducible rfl
           rotate_left
           ·simp only [Act.put, List.setIfInBounds_toArray, List.set_cons_zero, List.set_cons_succ, i64_w, i32_w]
            rfl
           refine pure_ (i := 12) (N := some 83) (v := ?_) (a' := ?_) #[true, true, true, true, true, true, true, true, true, true, true, true, true, false, false, false, false, false] rfl rfl (any_of HT_.out (by kernel_rfl)) (fun _ _ _ h => h) (Or.inl ⟨by rfl, ?_⟩) ?_ ?_
           rotate_left
           ·intro w'
            go_simp
            with_reducible rfl
           rotate_left
           ·simp only [Act.put, List.setIfInBounds_toArray, List.set_cons_zero, List.set_cons_succ, i64_w, i32_w]
            rfl
           refine pure_ (i := 13) (N := some 84) (v := ?_) (a' := ?_) #[true, true, true, true, true, true, true, true, true, true, true, true, true, true, false, false, false, false] rfl rfl (any_of HT_.out (by kernel_rfl)) (fun _ _ _ h => h) (Or.inl ⟨by rfl, ?_⟩) ?_ ?_
           rotate_left
           ·intro w'
            go_simp
            with_reducible rfl
           rotate_left
           ·simp only [Act.put, List.setIfInBounds_toArray, List.set_cons_zero, List.set_cons_succ, i64_w, i32_w]
            rfl
           refine take_ (i := 14) (N := some 85) (v := ?_) (a' := ?_) #[true, true, true, true, true, true, true, true, true, true, true, true, true, true, true, false, false, false] rfl rfl (take_ofW HT_.out HW_.out (by kernel_rfl)) (fun _ _ _ h => h) (Or.inl ⟨by rfl, ?_⟩) hHeld ?_ ?_
           rotate_left
           ·rintro w' ⟨s0, s1, s2, s3, s4, s5, s6, s7, s8, s9, s10, s11, s12, s13, s14, s15⟩
            go_simp
            with_reducible rfl
           rotate_left
           ·simp only [Act.put, List.setIfInBounds_toArray, List.set_cons_zero, List.set_cons_succ, i64_w, i32_w]
            rfl
           refine pure_ (i := 15) (N := some 86) (v := ?_) (a' := ?_) #[true, true, true, true, true, true, true, true, true, true, true, true, true, true, true, true, false, false] rfl rfl (any_of HT_.out (by kernel_rfl)) (fun _ _ _ h => h) (Or.inl ⟨by rfl, ?_⟩) ?_ ?_
           rotate_left
           ·intro w'
            go_simp
            with_reducible rfl
           rotate_left
           ·simp only [Act.put, List.setIfInBounds_toArray, List.set_cons_zero, List.set_cons_succ, i64_w, i32_w]
            rfl
           refine one_ (i := 16) (N := none) #[true, true, true, true, true, true, true, true, true, true, true, true, true, true, true, true, true, false] rfl rfl (one_of HT_.out (by kernel_rfl)) (by decide) (fun K hK => ?_)
           have hs48 : w47.cell? ⟨gb266, 0, none⟩ = some (.string (⟨#[]⟩ : ByteArray)) := (blk_cell BK266.out 0).trans rfl
           have hfs48 := blk_frozen BK266.out 0
           have hns48_1 := NB274_266.out
           have hms48_1 := NB266_274.out
           have hs49 : w47.cell? ⟨gb266, 1, none⟩ = some (.int .i64 0) := (blk_cell BK266.out 1).trans rfl
           have hfs49 := blk_frozen BK266.out 1
           have hns49_1 := NB274_266.out
           have hms49_1 := NB266_274.out
           have hs50 : w47.cell? ⟨gb266, 2, none⟩ = some (.slice none 0 0) := (blk_cell BK266.out 2).trans rfl
           have hfs50 := blk_frozen BK266.out 2
           have hns50_1 := NB274_266.out
           have hms50_1 := NB266_274.out
           refine skip_ (w1 := ?_) (by rfl) rfl ?_ ?_
           rotate_left
           ·go_simp
            rfl
           have nx_0 := Kd.own_blk (Kd.R_ne HO_275003.out BK266.out (by decide))
           refine hK.out _ _ ⟨((cell_far (p := ⟨gb266, _, none⟩) NB274_266.out _).trans (((cell_far (p := ⟨gb266, _, none⟩) NB274_266.out _).trans (((cell_far (p := ⟨gb266, _, none⟩) NB274_266.out _).trans (hHeld.1)))))), ((cell_far (p := ⟨gb266, _, none⟩) NB274_266.out _).trans (((cell_far (p := ⟨gb266, _, none⟩) NB274_266.out _).trans (((cell_far (p := ⟨gb266, _, none⟩) NB274_266.out _).trans (hHeld.2.1)))))), ((cell_far (p := ⟨gb266, _, none⟩) NB274_266.out _).trans (((cell_far (p := ⟨gb266, _, none⟩) NB274_266.out _).trans (((cell_far (p := ⟨gb266, _, none⟩) NB274_266.out _).trans (hHeld.2.2.1)))))), ((cell_far (p := ⟨gb266, _, none⟩) NB274_266.out _).trans (((cell_far (p := ⟨gb266, _, none⟩) NB274_266.out _).trans (((cell_far (p := ⟨gb266, _, none⟩) NB274_266.out _).trans (hHeld.2.2.2.1)))))), ((cell_far (p := ⟨gb266, _, none⟩) (by exact nx_0) _).trans (((cell_far (p := ⟨gb266, _, none⟩) (by exact nx_0) _).trans (((cell_far (p := ⟨gb266, _, none⟩) (by exact nx_0) _).trans (hHeld.2.2.2.2.1)))))), ((cell_far (p := ⟨gb266, _, none⟩) (by exact nx_0) _).trans (((cell_far (p := ⟨gb266, _, none⟩) (by exact nx_0) _).trans (((cell_far (p := ⟨gb266, _, none⟩) (by exact nx_0) _).trans (hHeld.2.2.2.2.2.1)))))), ((cell_far (p := ⟨gb266, _, none⟩) (by exact nx_0) _).trans (((cell_far (p := ⟨gb266, _, none⟩) (by exact nx_0) _).trans (((cell_far (p := ⟨gb266, _, none⟩) (by exact nx_0) _).trans (hHeld.2.2.2.2.2.2.1)))))), ((cell_far (p := ⟨gb266, _, none⟩) (by exact nx_0) _).trans (((cell_far (p := ⟨gb266, _, none⟩) (by exact nx_0) _).trans (((cell_far (p := ⟨gb266, _, none⟩) (by exact nx_0) _).trans (hHeld.2.2.2.2.2.2.2.1)))))), ((cell_far (p := ⟨gb266, _, none⟩) (by exact nx_0) _).trans (((cell_far (p := ⟨gb266, _, none⟩) (by exact nx_0) _).trans (((cell_far (p := ⟨gb266, _, none⟩) (by exact nx_0) _).trans (hHeld.2.2.2.2.2.2.2.2.1)))))), ((cell_far (p := ⟨gb266, _, none⟩) (by exact nx_0) _).trans (((cell_far (p := ⟨gb266, _, none⟩) (by exact nx_0) _).trans (((cell_far (p := ⟨gb266, _, none⟩) (by exact nx_0) _).trans (hHeld.2.2.2.2.2.2.2.2.2.1)))))), ((cell_far (p := ⟨gb266, _, none⟩) (by exact nx_0) _).trans (((cell_far (p := ⟨gb266, _, none⟩) (by exact nx_0) _).trans (((cell_far (p := ⟨gb266, _, none⟩) (by exact nx_0) _).trans (hHeld.2.2.2.2.2.2.2.2.2.2.1)))))), ((cell_far (p := ⟨gb266, _, none⟩) (by exact nx_0) _).trans (((cell_far (p := ⟨gb266, _, none⟩) (by exact nx_0) _).trans (((cell_far (p := ⟨gb266, _, none⟩) (by exact nx_0) _).trans (hHeld.2.2.2.2.2.2.2.2.2.2.2.1)))))), ((cell_far (p := ⟨gb266, _, none⟩) (by exact nx_0) _).trans (((cell_far (p := ⟨gb266, _, none⟩) (by exact nx_0) _).trans (((cell_far (p := ⟨gb266, _, none⟩) (by exact nx_0) _).trans (hHeld.2.2.2.2.2.2.2.2.2.2.2.2.1)))))), ((cell_far (p := ⟨gb266, _, none⟩) (by exact nx_0) _).trans (((cell_far (p := ⟨gb266, _, none⟩) (by exact nx_0) _).trans (((cell_far (p := ⟨gb266, _, none⟩) (by exact nx_0) _).trans (hHeld.2.2.2.2.2.2.2.2.2.2.2.2.2.1)))))), ((cell_far (p := ⟨gb266, _, none⟩) (by exact nx_0) _).trans (((cell_far (p := ⟨gb266, _, none⟩) (by exact nx_0) _).trans (((cell_far (p := ⟨gb266, _, none⟩) (by exact nx_0) _).trans (hHeld.2.2.2.2.2.2.2.2.2.2.2.2.2.2.1)))))), ((cell_far (p := ⟨gb266, _, none⟩) (by exact nx_0) _).trans (((cell_far (p := ⟨gb266, _, none⟩) (by exact nx_0) _).trans (((cell_far (p := ⟨gb266, _, none⟩) (by exact nx_0) _).trans (hHeld.2.2.2.2.2.2.2.2.2.2.2.2.2.2.2))))))⟩ (fun hHeld => ?_)
           clear hK K
           refine pure_ (i := 17) (N := some 3) (v := ?_) (a' := ?_) #[true, true, true, true, true, true, true, true, true, true, true, true, true, true, true, true, true, true] rfl rfl (any_of HT_.out (by kernel_rfl)) (fun _ _ _ h => h) (Or.inl ⟨by rfl, ?_⟩) ?_ ?_
           rotate_left
           ·intro w'
            go_simp
            with_reducible rfl
           rotate_left
           ·simp only [Act.put, List.setIfInBounds_toArray, List.set_cons_zero, List.set_cons_succ, i64_w, i32_w]
            rfl
           refine done_ (done_of HT_.out (by kernel_rfl)) ?_
           try go_wp2
           refine bodyPost_ret (results_ct rfl _ _ gb266 75 #[.string ((rd_T54 t270 0).f2), .int .i64 ((rd_T54 t270 1).f1), .slice A282_3 ((rd_T54 t270 2).f3).length c282_3] (0, 0) _ rfl (rb (blk_put (cs := #[.string ((rd_T54 t270 0).f2), .int .i64 ((rd_T54 t270 1).f1), .slice none 0 0]) (rb (blk_put (cs := #[.string ((rd_T54 t270 0).f2), .int .i64 0, .slice none 0 0]) (rb (blk_put (cs := #[.string (⟨#[]⟩ : ByteArray), .int .i64 0, .slice none 0 0]) (rb BK266.out) 0 _ rfl)) 1 _ rfl)) 2 _ rfl)) Try.underlying75 rfl (by kernel_rfl)) rfl ?_
           exact ⟨_, by first | rfl | (simp [errW_none, errW_some] <;> rfl) | (simp [*, errW_none, errW_some] <;> rfl), kR (Kd.R_mono (Kd.R_far (p := ⟨gb266, 2, none⟩) (Kd.R_far (p := ⟨gb266, 1, none⟩) (Kd.R_far (p := ⟨gb266, 0, none⟩) (Kd.R_types HL282_3.out BK266.out (by decide)) (fun _ hk => hk.2) (.string ((rd_T54 t270 0).f2))) (fun _ hk => hk.2) (.int .i64 ((rd_T54 t270 1).f1))) (fun _ hk => hk.2) (.slice A282_3 ((rd_T54 t270 2).f3).length c282_3)) (fun _ hk => trivial)), bb⟩
          ·rw [if_neg c44] at H
           exact absurd H (by simp)
         ·rw [if_neg c43] at H
          exact absurd H (by simp)
      ·rw [if_neg c34] at H
       exact absurd H (by simp)
  ·rw [if_neg c6] at H
   have c6b0 : (t273 == 0) = false := beq_eq_false_iff_ne.mpr c6
   have c6b1 : (t273 != 0) = true := bne_iff_ne.mpr c6
   simp only [Option.some.injEq, Prod.mk.injEq] at H
   obtain ⟨rfl, rfl, rfl, rfl⟩ := H
   go_enter Try.func34, Try.ntmps34
   go_wp2_with (first | ((with_reducible refine gate_dst (N := 2) rfl ?_); (try (refine gate_guard (by rfl) ?_; dsimp only)); refine box_event ?hg (N := 2) ?hd (cs := #[.string (⟨#[]⟩ : ByteArray), .int .i64 0, .slice none 0 0]) (t := 75) ?hr ?_; (case hd => rfl); (case hg => rfl); (case hr => first | (go_simp; done) | (go_simp; rfl)); intro gb266 hg w51 hbox hb; have n0_ := Aside0.mk (below_step bb hb); have n1_ := Aside0.mk (hbox); have n2_ := Aside0.mk ((by rw [hg]; exact (below_size bb) : w.heap.size ≤ gb266)); have n3_ := Aside0.mk ((by rw [hg]; exact (below_size bb) : w.heap.size ≤ gb266)); clear HB; have HB := n0_; have BK266 := n1_; have GW266 := n2_; have GE266 := n3_; clear n0_ n1_ n2_ n3_; clear hb hbox hg) | ((with_reducible refine gate_callee (f := 75) rfl ?_); refine goesL_ (some 12) rfl rfl Try.func75 (by kernel_rfl) rfl #[.string a0] rfl ag ?_; (with_reducible refine (pack_Get.calls a0 t267 t268 t269 t270 t273 _ A5.out).mono ?_); rintro e w52 ⟨v271, rfl, ho0, hb⟩; refine ⟨_, rfl, ?_⟩; have n0_ := Aside0.mk (Kd.R_lower ho0 (below_size bb)); have n1_ := Aside0.mk (blk_below (g := gb266) (o := .cells #[.string (⟨#[]⟩ : ByteArray), .int .i64 0, .slice none 0 0] 75 (0, 0)) (rb BK266.out) hb); have n2_ := Aside0.mk (below_step bb hb); clear BK266; clear HB; have HO272 := n0_; have BK266 := n1_; have HB := n2_; clear n0_ n1_ n2_; (try clear hb); (try clear hb2); (try clear hk); (try clear hi); (try clear ho0)) | ((with_reducible refine gate_dst (N := 4) rfl ?_); (try (refine gate_guard (by rfl) ?_; dsimp only)); refine box_event ?hg (N := 4) ?hd (cs := #[.int .i64 0, .int .i64 0, .string (⟨#[]⟩ : ByteArray), .slice none 0 0]) (t := 54) ?hr ?_; (case hd => rfl); (case hg => rfl); (case hr => first | (go_simp; done) | (go_simp; rfl)); intro gb274 hg w53 hbox hb; have n0_ := Aside0.mk (Kd.R_below (Kd.R_elderB (kR HO272.out) gb274 (Nat.le_of_eq hg.symm)) hb); have n1_ := Aside0.mk (blk_below (g := gb266) (o := .cells #[.string (⟨#[]⟩ : ByteArray), .int .i64 0, .slice none 0 0] 75 (0, 0)) (rb BK266.out) hb); have n2_ := Aside0.mk (below_step bb hb); have n3_ := Aside0.mk (hbox); have n4_ := Aside0.mk ((by rw [hg]; exact (below_size bb) : w.heap.size ≤ gb274)); have n5_ := Aside0.mk ((by rw [hg]; exact (below_size bb) : w.heap.size ≤ gb274)); have n6_ := Aside0.mk ((by rw [hg]; exact Nat.ne_of_lt (blk_lt (g := gb266) (o := .cells #[.string (⟨#[]⟩ : ByteArray), .int .i64 0, .slice none 0 0] 75 (0, 0)) (rb BK266.out)) : gb266 ≠ gb274)); have n7_ := Aside0.mk ((by rw [hg]; exact Nat.ne_of_gt (blk_lt (g := gb266) (o := .cells #[.string (⟨#[]⟩ : ByteArray), .int .i64 0, .slice none 0 0] 75 (0, 0)) (rb BK266.out)) : gb274 ≠ gb266)); clear HO272; clear BK266; clear HB; have HO272 := n0_; have BK266 := n1_; have HB := n2_; have BK274 := n3_; have GW274 := n4_; have GE274 := n5_; have NB266_274 := n6_; have NB274_266 := n7_; clear n0_ n1_ n2_ n3_ n4_ n5_ n6_ n7_; clear hb hbox hg; have hnb54 := NB274_266.out; have hnc54 := NB266_274.out; have hcz55_0 : w53.cell? ⟨gb274, 0, none⟩ = some (.int .i64 0) := (blk_cell BK274.out 0).trans rfl; have hcz55_1 : w53.cell? ⟨gb274, 1, none⟩ = some (.int .i64 0) := (blk_cell BK274.out 1).trans rfl; have hcz55_2 : w53.cell? ⟨gb274, 2, none⟩ = some (.string (⟨#[]⟩ : ByteArray)) := (blk_cell BK274.out 2).trans rfl; have hcz55_3 : w53.cell? ⟨gb274, 3, none⟩ = some (.slice none 0 0) := (blk_cell BK274.out 3).trans rfl; have hfz55_0 := blk_frozen BK274.out 0; have hfz55_1 := blk_frozen BK274.out 1; have hfz55_2 := blk_frozen BK274.out 2; have hfz55_3 := blk_frozen BK274.out 3; obtain ⟨Ao56, co56, eo56⟩ := Kd.R_slice HO272.out; subst eo56; have hcz57_0 : w53.cell? ⟨gb266, 0, none⟩ = some (.string (⟨#[]⟩ : ByteArray)) := (blk_cell BK266.out 0).trans rfl; have hcz57_1 : w53.cell? ⟨gb266, 1, none⟩ = some (.int .i64 0) := (blk_cell BK266.out 1).trans rfl; have hcz57_2 : w53.cell? ⟨gb266, 2, none⟩ = some (.slice none 0 0) := (blk_cell BK266.out 2).trans rfl; have hfz57_0 := blk_frozen BK266.out 0; have hfz57_1 := blk_frozen BK266.out 1; have hfz57_2 := blk_frozen BK266.out 2))
   refine bodyPost_ret (results_ct rfl _ _ gb266 75 #[.string (⟨#[]⟩ : ByteArray), .int .i64 0, .slice none 0 0] (0, 0) _ rfl (rb (blk_put (cs := #[.string (⟨#[]⟩ : ByteArray), .int .i64 0, .slice none 0 0]) (rb (blk_put (cs := #[.string (⟨#[]⟩ : ByteArray), .int .i64 0, .slice none 0 0]) (rb (blk_put (cs := #[.string (⟨#[]⟩ : ByteArray), .int .i64 0, .slice none 0 0]) (rb (blk_far (rb (blk_far (rb (blk_far (rb (blk_far (rb BK266.out) NB266_274.out _)) NB266_274.out _)) NB266_274.out _)) NB266_274.out _)) 0 _ rfl)) 1 _ rfl)) 2 _ rfl)) Try.underlying75 rfl (by kernel_rfl)) rfl ?_
   exact ⟨_, by first | rfl | (simp [errW_none, errW_some] <;> rfl) | (simp [*, errW_none, errW_some] <;> rfl), kn, bb⟩

end Go.Proofs.Ytjicfkmpgogppaa.PO
