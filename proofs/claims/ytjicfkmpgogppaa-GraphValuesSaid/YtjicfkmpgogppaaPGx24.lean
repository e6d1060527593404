-- printed by a program of this session out of the translation; see NOTES.md
import Derived.Test.YtjicfkmpgogppaaPGx0
import Derived.Test.YtjicfkmpgogppaaPGx23
import Derived.Test.YtjicfkmpgogppaaRb
namespace Go.Proofs.Ytjicfkmpgogppaa.PG
open Go.RowKit Go.Proofs.YtjicfkmpgogppaaW.PrintWords Go.Proofs.YtjicfkmpgogppaaW.PrintLast Go.Proofs.YtjicfkmpgogppaaW.PrintMore Go.Proofs.YtjicfkmpgogppaaRb
attribute [local go_sem] max2_int min2_int max_two min_two max_three min_three max_four min_four   -- for this text's walks alone
set_option linter.unusedVariables false
set_option linter.unusedSimpArgs false

/-! ### graph_node: function 62 -/
mutual
def graph_node.j0 : Nat → Bool → Int → Int → ByteArray → List (S54) → Option (ByteArray × List ByteArray × Int × Int × Int × ByteArray × Bool)
 | 0, _, _, _, _, _ => none
 | k + 1, x28, x266000, x266001, x266002, x266003 => if x28 = true then (some ((⟨#[]⟩ : ByteArray), ([] : List ByteArray), 0, 0, 0, (⟨#[]⟩ : ByteArray), false)) else (if 0 < (x266003.length : Int) then (if 2 < (x266003.length : Int) then (if 3 < (x266003.length : Int) then (if 4 < (x266003.length : Int) then (if 5 < (x266003.length : Int) then (if 1 < (x266003.length : Int) then (graph_node.l0 k ((rd_T54 x266003 1).f3) (((rd_T54 x266003 1).f3).length : Int) 0 ((rd_T54 x266003 0).f2) ([] : List ByteArray) ((rd_T54 x266003 2).f1) ((rd_T54 x266003 3).f1) ((rd_T54 x266003 4).f1) ((rd_T54 x266003 5).f2)) else (none)) else (none)) else (none)) else (none)) else (none)) else (none))
def graph_node.l0 : Nat → List (S54) → Int → Int → ByteArray → List ByteArray → Int → Int → Int → ByteArray → Option (ByteArray × List ByteArray × Int × Int × Int × ByteArray × Bool)
 | 0, _, _, _, _, _, _, _, _, _ => none
 | k + 1, x60, x61, x62, x281000, x281001, x281002, x281003, x281004, x281005 => if x62 < x61 then (if 0 ≤ x62 then (if x62 < (x60.length : Int) then (if ((rd_T54 x60 x62).f0) = 1 then (if x281001.length < 8796093022208 then (graph_node.l0 k x60 x61 (wrap64 (x62 + 1)) x281000 (x281001 ++ [(rd_T54 x60 x62).f2]) x281002 x281003 x281004 x281005) else (none)) else (some ((⟨#[]⟩ : ByteArray), ([] : List ByteArray), 0, 0, 0, (⟨#[]⟩ : ByteArray), false))) else (none)) else (none)) else (some (x281000, x281001, x281002, x281003, x281004, x281005, true))
end
def graph_node.f (k : Nat) (a0_0 : Int) (a0_1 : Int) (a0_2 : ByteArray) (l0_3 : List (S54)) : Option (ByteArray × List ByteArray × Int × Int × Int × ByteArray × Bool) := (graph_shaped.f k a0_0 a0_1 a0_2 l0_3 (([1, 2, 0, 0, 0, 1] : List Int))).bind fun t270 => (if t270 = true then (if 2 < (l0_3.length : Int) then ((graph_small.f ((rd_T54 l0_3 2).f1)).bind fun t272 => (if t272 = true then (if 4 < (l0_3.length : Int) then ((graph_small.f ((rd_T54 l0_3 4).f1)).bind fun t274 => (graph_node.j0 k (!t274) a0_0 a0_1 a0_2 l0_3)) else (none)) else (graph_node.j0 k true a0_0 a0_1 a0_2 l0_3))) else (none)) else (graph_node.j0 k true a0_0 a0_1 a0_2 l0_3))
theorem graph_node.mono_l : ∀ k, (∀ y0 y1 y2 y3 y4, LeO (graph_node.j0 k y0 y1 y2 y3 y4) (graph_node.j0 (k + 1) y0 y1 y2 y3 y4)) ∧ (∀ y0 y1 y2 y3 y4 y5 y6 y7 y8, LeO (graph_node.l0 k y0 y1 y2 y3 y4 y5 y6 y7 y8) (graph_node.l0 (k + 1) y0 y1 y2 y3 y4 y5 y6 y7 y8))
 | 0 => ⟨fun _ _ _ _ _ r h => by simp [graph_node.j0] at h, fun _ _ _ _ _ _ _ _ _ r h => by simp [graph_node.l0] at h⟩
 | k + 1 => by
  obtain ⟨ih0, ih1⟩ := graph_node.mono_l k
  refine ⟨?_, ?_⟩
  ·intro y0 y1 y2 y3 y4
   unfold graph_node.j0
   repeat' first
   | (with_reducible exact ih0 _ _ _ _ _)
   | (with_reducible exact ih1 _ _ _ _ _ _ _ _ _)
   | (with_reducible exact graph_shaped.mono _ _ _ _ _ _)
   | (with_reducible exact LeO.refl _)
   | (with_reducible exact LeO.none _)
   | (with_reducible refine LeO.ite ?_ ?_)
   | (with_reducible refine LeO.bind ?_ (fun _ => ?_))
   | exact ih0 _ _ _ _ _
   | exact ih1 _ _ _ _ _ _ _ _ _
   | exact graph_shaped.mono _ _ _ _ _ _
   | exact LeO.none _
   | refine LeO.ite ?_ ?_
   | refine LeO.bind ?_ (fun _ => ?_)
  ·intro y0 y1 y2 y3 y4 y5 y6 y7 y8
   unfold graph_node.l0
   repeat' first
   | (with_reducible exact ih0 _ _ _ _ _)
   | (with_reducible exact ih1 _ _ _ _ _ _ _ _ _)
   | (with_reducible exact graph_shaped.mono _ _ _ _ _ _)
   | (with_reducible exact LeO.refl _)
   | (with_reducible exact LeO.none _)
   | (with_reducible refine LeO.ite ?_ ?_)
   | (with_reducible refine LeO.bind ?_ (fun _ => ?_))
   | exact ih0 _ _ _ _ _
   | exact ih1 _ _ _ _ _ _ _ _ _
   | exact graph_shaped.mono _ _ _ _ _ _
   | exact LeO.none _
   | refine LeO.ite ?_ ?_
   | refine LeO.bind ?_ (fun _ => ?_)
theorem graph_node.mono : ∀ a0 a1 a2 a3 k, LeO (graph_node.f k a0 a1 a2 a3) (graph_node.f (k + 1) a0 a1 a2 a3) := by
 intro a0 a1 a2 a3 k
 obtain ⟨ih0, ih1⟩ := graph_node.mono_l k
 unfold graph_node.f
 repeat' first
   | (with_reducible exact ih0 _ _ _ _ _)
   | (with_reducible exact ih1 _ _ _ _ _ _ _ _ _)
   | (with_reducible exact graph_shaped.mono _ _ _ _ _ _)
   | (with_reducible exact LeO.refl _)
   | (with_reducible exact LeO.none _)
   | (with_reducible refine LeO.ite ?_ ?_)
   | (with_reducible refine LeO.bind ?_ (fun _ => ?_))
   | exact ih0 _ _ _ _ _
   | exact ih1 _ _ _ _ _ _ _ _ _
   | exact graph_shaped.mono _ _ _ _ _ _
   | exact LeO.none _
   | refine LeO.ite ?_ ?_
   | refine LeO.bind ?_ (fun _ => ?_)
def graph_node.T3 : Bool × List (List Nat × List Nat) := (true, [([], []), ([0], [0]), ([1], [1]), ([2], [2]), ([3], [3]), ([], []), ([5], [5]), ([6], [6]), ([7], [7]), ([8], [8]), ([], []), ([10], [10]), ([11], [11]), ([12], [12]), ([13], [13]), ([], []), ([15], [15]), ([16], [16]), ([17], [17]), ([18], [18]), ([], []), ([20], [20]), ([21], [21]), ([22], [22]), ([23], [23]), ([4, 9, 14, 19, 24], [4, 9, 14, 19, 24]), ([], []), ([26, 25, 0, 1, 2, 3, 4, 5, 6, 7, 8, 9, 10, 11, 12, 13, 14, 15, 16, 17, 18, 19, 20, 21, 22, 23, 24, 25, 26], [25, 26])])
def graph_node.B3 : List Nat := [0, 1, 3, 7, 15, 0, 32, 96, 224, 480, 0, 1024, 3072, 7168, 15360, 0, 32768, 98304, 229376, 491520, 0, 1048576, 3145728, 7340032, 15728640, 33554431, 0, 134217727]
theorem graph_node.tab3 : rtab .any (opsOf Try.f62 3) = graph_node.T3 := by kernel_rfl
theorem graph_node.bits3 : waitsOk graph_node.T3.2 graph_node.B3 = true := by kernel_rfl
set_option maxHeartbeats 8000000 in
set_option maxRecDepth 100000 in
theorem graph_node.calls (k : Nat) (a0_0 : Int) (a0_1 : Int) (a0_2 : ByteArray) (A0_3 : Option Addr) (c0_3 : Nat) (l0_3 : List (S54)) (r1 : ByteArray) (r2 : List ByteArray) (r3 : Int) (r4 : Int) (r5 : Int) (r6 : ByteArray) (r7 : Bool) (w : World) (hr0_3 : Kd.C k54 w A0_3 l0_3.length l0_3) (hc0_3 : l0_3.length ≤ c0_3) (h : graph_node.f k a0_0 a0_1 a0_2 l0_3 = some (r1, r2, r3, r4, r5, r6, r7)) :
  Calls Try.prog 62 #[.agg #[.int .i64 a0_0, .int .i64 a0_1, .string a0_2, .slice A0_3 l0_3.length c0_3]] w fun e w' => ∃ v1_ : Value, e = .returned (.tuple #[.agg #[.string r1, v1_, .int .i64 r3, .int .i64 r4, .int .i64 r5, .string r6], .bool r7]) ∧ Kd.R Kd.string 9 w' w.heap.size (fun _ => True) v1_ r2 ∧ Below w.heap.size w w' := by
 have hu54 := Try.underlying54
 have hu48 := Try.underlying48
 have HR0_3 := Aside0.mk hr0_3
 have HC0_3 := Aside0.mk hc0_3
 clear hr0_3 hc0_3
 have HB := Aside0.mk (Below.refl w.heap.size w)
 have H : ((graph_shaped.f k a0_0 a0_1 a0_2 l0_3 (([1, 2, 0, 0, 0, 1] : List Int))).bind fun t270 => (if t270 = true then (if 2 < (l0_3.length : Int) then ((graph_small.f ((rd_T54 l0_3 2).f1)).bind fun t272 => (if t272 = true then (if 4 < (l0_3.length : Int) then ((graph_small.f ((rd_T54 l0_3 4).f1)).bind fun t274 => (graph_node.j0 k (!t274) a0_0 a0_1 a0_2 l0_3)) else (none)) else (graph_node.j0 k true a0_0 a0_1 a0_2 l0_3))) else (none)) else (graph_node.j0 k true a0_0 a0_1 a0_2 l0_3))) = some (r1, r2, r3, r4, r5, r6, r7) := h
 clear h
 have HC2 := Aside0.mk H
 clear H
 go_enter Try.func62, Try.ntmps62
 go_upto_region 1 with (first | ((with_reducible refine gate_dst (N := 1) rfl ?_); refine box_event ?hg (N := 1) ?hd (cs := #[.int .i64 a0_0, .int .i64 a0_1, .string a0_2, .slice A0_3 l0_3.length c0_3]) (t := 54) ?hr ?_; (case hd => rfl); (case hg => rfl); (case hr => first | (go_simp; done) | (go_simp; rfl)); intro gb265 hg w3 hbox hb; have n0_ := Aside0.mk (below_step bb hb); have n1_ := Aside0.mk (hbox); have n2_ := Aside0.mk ((by rw [hg]; exact (below_size bb) : w.heap.size ≤ gb265)); have n3_ := Aside0.mk ((by rw [hg]; exact (below_size bb) : w.heap.size ≤ gb265)); clear HB; have HB := n0_; have BK265 := n1_; have GW265 := n2_; have GE265 := n3_; clear n0_ n1_ n2_ n3_; clear hb hbox hg) | ((with_reducible refine gate_dst (N := 2) rfl ?_); refine box_event ?hg (N := 2) ?hd (cs := #[.string (⟨#[]⟩ : ByteArray), .slice none 0 0, .int .i64 0, .int .i64 0, .int .i64 0, .string (⟨#[]⟩ : ByteArray)]) (t := 48) ?hr ?_; (case hd => rfl); (case hg => rfl); (case hr => first | (go_simp; done) | (go_simp; rfl)); intro gb266 hg w4 hbox hb; have n0_ := Aside0.mk (blk_below (rb BK265.out) hb); have n1_ := Aside0.mk (below_step bb hb); have n2_ := Aside0.mk (hbox); have n3_ := Aside0.mk ((by rw [hg]; exact (below_size bb) : w.heap.size ≤ gb266)); have n4_ := Aside0.mk ((by rw [hg]; exact (below_size bb) : w.heap.size ≤ gb266)); have n5_ := Aside0.mk ((by rw [hg]; exact Nat.ne_of_lt (blk_lt (rb BK265.out)) : gb265 ≠ gb266)); have n6_ := Aside0.mk ((by rw [hg]; exact Nat.ne_of_gt (blk_lt (rb BK265.out)) : gb266 ≠ gb265)); clear BK265; clear HB; have BK265 := n0_; have HB := n1_; have BK266 := n2_; have GW266 := n3_; have GE266 := n4_; have NB265_266 := n5_; have NB266_265 := n6_; clear n0_ n1_ n2_ n3_ n4_ n5_ n6_; clear hb hbox hg))
 (try simp only [Act.put, List.setIfInBounds_toArray, List.set_cons_zero, List.set_cons_succ])
 go_cut [28] (fun v28 wc => ∃ (kq : Nat) (x28_1 : Bool), v28 = .bool x28_1 ∧ Aside0 (graph_node.j0 kq x28_1 a0_0 a0_1 a0_2 l0_3 = some (r1, r2, r3, r4, r5, r6, r7)) ∧ Aside0 (kq ≤ k) ∧ Aside0 (wc.heap[gb265]? = some (.cells #[.int .i64 a0_0, .int .i64 a0_1, .string a0_2, (.slice A0_3 l0_3.length c0_3)] 54 (0, 0))) ∧ Aside0 (wc.heap[gb266]? = some (.cells #[.string (⟨#[]⟩ : ByteArray), (.slice none 0 0), .int .i64 0, .int .i64 0, .int .i64 0, .string (⟨#[]⟩ : ByteArray)] 48 (0, 0))) ∧ Aside0 (Below w.heap.size w wc))
 case first =>
  have H := HC2.out
  clear HC2
  obtain ⟨y267, hy267⟩ : ∃ y_ : List Int, y_ = (([1, 2, 0, 0, 0, 1] : List Int)) := ⟨_, rfl⟩
  replace H : ((graph_shaped.f k a0_0 a0_1 a0_2 l0_3 y267).bind fun t270 => (if t270 = true then (if 2 < (l0_3.length : Int) then ((graph_small.f ((rd_T54 l0_3 2).f1)).bind fun t272 => (if t272 = true then (if 4 < (l0_3.length : Int) then ((graph_small.f ((rd_T54 l0_3 4).f1)).bind fun t274 => (graph_node.j0 k (!t274) a0_0 a0_1 a0_2 l0_3)) else (none)) else (graph_node.j0 k true a0_0 a0_1 a0_2 l0_3))) else (none)) else (graph_node.j0 k true a0_0 a0_1 a0_2 l0_3))) = some (r1, r2, r3, r4, r5, r6, r7) := by first | (rw [hy267]; with_reducible exact H) | (have H2_ := (Option.bind_some _ _).symm.trans H; rw [hy267]; with_reducible exact H2_) | (have H2_ := (Option.bind_some _ _).symm.trans H; with_reducible exact H2_) | with_reducible exact H | (rw [hy267]; exact H) | exact H
  have Ny267 := Aside0.mk hy267
  clear hy267
  replace H := Option.bind_eq_some_iff.mp H
  obtain ⟨t270, A50, H⟩ := H
  replace H : (if t270 = true then (if 2 < (l0_3.length : Int) then ((graph_small.f ((rd_T54 l0_3 2).f1)).bind fun t272 => (if t272 = true then (if 4 < (l0_3.length : Int) then ((graph_small.f ((rd_T54 l0_3 4).f1)).bind fun t274 => (graph_node.j0 k (!t274) a0_0 a0_1 a0_2 l0_3)) else (none)) else (graph_node.j0 k true a0_0 a0_1 a0_2 l0_3))) else (none)) else (graph_node.j0 k true a0_0 a0_1 a0_2 l0_3)) = some (r1, r2, r3, r4, r5, r6, r7) := H
  have A5 := Aside0.mk A50
  clear A50
  by_cases c6 : t270 = true
  ·subst c6
   have H1 : (if 2 < (l0_3.length : Int) then ((graph_small.f ((rd_T54 l0_3 2).f1)).bind fun t272 => (if t272 = true then (if 4 < (l0_3.length : Int) then ((graph_small.f ((rd_T54 l0_3 4).f1)).bind fun t274 => (graph_node.j0 k (!t274) a0_0 a0_1 a0_2 l0_3)) else (none)) else (graph_node.j0 k true a0_0 a0_1 a0_2 l0_3))) else (none)) = some (r1, r2, r3, r4, r5, r6, r7) := by rw [if_pos rfl] at H; exact H
   clear H
   have H := H1
   clear H1
   by_cases c7 : 2 < (l0_3.length : Int)
   ·rw [if_pos c7] at H
    have c7b0 : decide (2 < (l0_3.length : Int)) = true := decide_eq_true c7
    have c7b1 : decide (2 < l0_3.length) = true := decide_eq_true (by omega)
    clear c7
    (first | rw [c7b0] | (simp only [i64_w, i32_w]; rw [c7b0]) | skip)
    replace H := Option.bind_eq_some_iff.mp H
    obtain ⟨t272, A80, H⟩ := H
    replace H : (if t272 = true then (if 4 < (l0_3.length : Int) then ((graph_small.f ((rd_T54 l0_3 4).f1)).bind fun t274 => (graph_node.j0 k (!t274) a0_0 a0_1 a0_2 l0_3)) else (none)) else (graph_node.j0 k true a0_0 a0_1 a0_2 l0_3)) = some (r1, r2, r3, r4, r5, r6, r7) := H
    have A8 := Aside0.mk A80
    clear A80
    by_cases c9 : t272 = true
    ·subst c9
     have H1 : (if 4 < (l0_3.length : Int) then ((graph_small.f ((rd_T54 l0_3 4).f1)).bind fun t274 => (graph_node.j0 k (!t274) a0_0 a0_1 a0_2 l0_3)) else (none)) = some (r1, r2, r3, r4, r5, r6, r7) := by rw [if_pos rfl] at H; exact H
     clear H
     have H := H1
     clear H1
     by_cases c10 : 4 < (l0_3.length : Int)
     ·rw [if_pos c10] at H
      have c10b0 : decide (4 < (l0_3.length : Int)) = true := decide_eq_true c10
      have c10b1 : decide (4 < l0_3.length) = true := decide_eq_true (by omega)
      clear c10
      replace H := Option.bind_eq_some_iff.mp H
      obtain ⟨t274, A110, H⟩ := H
      replace H : (graph_node.j0 k (!t274) a0_0 a0_1 a0_2 l0_3) = some (r1, r2, r3, r4, r5, r6, r7) := H
      have A11 := Aside0.mk A110
      clear A110
      have H' := Aside0.mk H
      clear H
      have hnb12 := NB265_266.out
      have hnc12 := NB266_265.out
      have hcz13_0 : w4.cell? ⟨gb265, 0, none⟩ = some (.int .i64 a0_0) := (blk_cell BK265.out 0).trans rfl
      have hcz13_1 : w4.cell? ⟨gb265, 1, none⟩ = some (.int .i64 a0_1) := (blk_cell BK265.out 1).trans rfl
      have hcz13_2 : w4.cell? ⟨gb265, 2, none⟩ = some (.string a0_2) := (blk_cell BK265.out 2).trans rfl
      have hcz13_3 : w4.cell? ⟨gb265, 3, none⟩ = some (.slice A0_3 l0_3.length c0_3) := (blk_cell BK265.out 3).trans rfl
      have hfz13_0 := blk_frozen BK265.out 0
      have hfz13_1 := blk_frozen BK265.out 1
      have hfz13_2 := blk_frozen BK265.out 2
      have hfz13_3 := blk_frozen BK265.out 3
      go_wp2_with (first | ((with_reducible refine gate_dst (N := 8) rfl ?_); refine Kd.R_lit (Kd.int .i64) _ 51 ?hg (N := 8) ?hd (xs := ([1, 2, 0, 0, 0, 1] : List Int)) (inner := [.int .i64 1, .int .i64 2, .int .i64 0, .int .i64 0, .int .i64 0, .int .i64 1]) (ok := fun _ => True) (okp := fun _ => True) ?hr ?hp (fun _ hk => hk) trivial (Below.refl _ _) (Nat.le_refl _) (by simp) ?_; (case hd => rfl); (case hg => rfl); (case hr => first | (go_simp; done) | (go_simp; rfl)); (case hp => exact (Reps.one (show Kd.M (Kd.int .i64) _ _ _ 1 [.int .i64 1] from rfl) (Reps.one (show Kd.M (Kd.int .i64) _ _ _ 2 [.int .i64 2] from rfl) (Reps.one (show Kd.M (Kd.int .i64) _ _ _ 0 [.int .i64 0] from rfl) (Reps.one (show Kd.M (Kd.int .i64) _ _ _ 0 [.int .i64 0] from rfl) (Reps.one (show Kd.M (Kd.int .i64) _ _ _ 0 [.int .i64 0] from rfl) (Reps.one (show Kd.M (Kd.int .i64) _ _ _ 1 [.int .i64 1] from rfl) (Reps.none _ _)))))))); intro v268 w14 ho15 hb hg_ hnew_; clear hg_ hnew_; (first | rw [← Ny267.out] at ho15 | (simp only [Int.reduceToNat] at ho15; rw [← Ny267.out] at ho15)); have n0_ := Aside0.mk (Kd.R_lower ho15 (below_size bb)); have n1_ := Aside0.mk (blk_below (rb BK265.out) hb); have n2_ := Aside0.mk (blk_below (g := gb266) (o := .cells #[.string (⟨#[]⟩ : ByteArray), .slice none 0 0, .int .i64 0, .int .i64 0, .int .i64 0, .string (⟨#[]⟩ : ByteArray)] 48 (0, 0)) (rb BK266.out) hb); have n3_ := Aside0.mk (below_step bb hb); clear BK265; clear BK266; clear HB; have HO269 := n0_; have BK265 := n1_; have BK266 := n2_; have HB := n3_; clear n0_ n1_ n2_ n3_; clear hb ho15; obtain ⟨Ao16, co16, eo16⟩ := Kd.R_slice HO269.out; subst eo16) | ((with_reducible refine gate_callee (f := 61) rfl ?_); refine goesL_ (some 9) rfl rfl Try.func61 (by kernel_rfl) rfl #[.agg #[.int .i64 a0_0, .int .i64 a0_1, .string a0_2, .slice A0_3 l0_3.length c0_3], .slice Ao16 y267.length co16] rfl ag ?_; (with_reducible refine (graph_shaped.calls k a0_0 a0_1 a0_2 _ _ l0_3 _ _ y267 true _ ?side1 ?side2 ?side3 ?side4 A5.out).mono ?_); (case side1 => repeat (first | exact (Kd.C_below HR0_3.out HB.out) | (with_reducible refine Kd.C_alloc ?_ _) | (with_reducible refine Kd.C_drewN ?_ _) | (with_reducible refine Kd.C_drew ?_))); (case side2 => exact HC0_3.out); (case side3 => repeat (first | exact (Kd.R_reads' HO269.out).2.2 | (with_reducible refine Kd.C_alloc ?_ _) | (with_reducible refine Kd.C_drewN ?_ _) | (with_reducible refine Kd.C_drew ?_))); (case side4 => exact (Kd.R_reads' HO269.out).2.1); rintro e w17 ⟨rfl, hb⟩; refine ⟨_, rfl, ?_⟩; have n0_ := Aside0.mk (Kd.R_below (kR HO269.out) hb); have n1_ := Aside0.mk (blk_below (rb BK265.out) hb); have n2_ := Aside0.mk (blk_below (g := gb266) (o := .cells #[.string (⟨#[]⟩ : ByteArray), .slice none 0 0, .int .i64 0, .int .i64 0, .int .i64 0, .string (⟨#[]⟩ : ByteArray)] 48 (0, 0)) (rb BK266.out) hb); have n3_ := Aside0.mk (below_step bb hb); clear HO269; clear BK265; clear BK266; clear HB; have HO269 := n0_; have BK265 := n1_; have BK266 := n2_; have HB := n3_; clear n0_ n1_ n2_ n3_; (try clear hb); (try clear hb2); (try clear hk); (try clear hi); have hcz18_0 : w17.cell? ⟨gb265, 0, none⟩ = some (.int .i64 a0_0) := (blk_cell BK265.out 0).trans rfl; have hcz18_1 : w17.cell? ⟨gb265, 1, none⟩ = some (.int .i64 a0_1) := (blk_cell BK265.out 1).trans rfl; have hcz18_2 : w17.cell? ⟨gb265, 2, none⟩ = some (.string a0_2) := (blk_cell BK265.out 2).trans rfl; have hcz18_3 : w17.cell? ⟨gb265, 3, none⟩ = some (.slice A0_3 l0_3.length c0_3) := (blk_cell BK265.out 3).trans rfl; have hfz18_0 := blk_frozen BK265.out 0; have hfz18_1 := blk_frozen BK265.out 1; have hfz18_2 := blk_frozen BK265.out 2; have hfz18_3 := blk_frozen BK265.out 3; have p271 : 0 ≤ (2 : Int) := (by omega); have q271 : 2 < (l0_3.length : Int) := of_decide_eq_true (by first | (with_reducible assumption) | assumption); obtain ⟨ad271, A271_3, c271_3, e271, hx271_0, hx271_1, hx271_2, hx271_3, hl271_3, hi271_3⟩ := at_T54 HR0_3.out 2 p271 q271; cases e271; (try simp only [show (2 : Int).toNat = 2 from rfl, Nat.reduceMul, Nat.reduceEqDiff, Go.Addr.add, ↓reduceIte] at hx271_0); (try simp only [show (2 : Int).toNat = 2 from rfl, Nat.reduceMul, Nat.reduceEqDiff, Go.Addr.add, ↓reduceIte] at hx271_1); (try simp only [show (2 : Int).toNat = 2 from rfl, Nat.reduceMul, Nat.reduceEqDiff, Go.Addr.add, ↓reduceIte] at hx271_2); (try simp only [show (2 : Int).toNat = 2 from rfl, Nat.reduceMul, Nat.reduceEqDiff, Go.Addr.add, ↓reduceIte] at hx271_3); have qi271 : (2 < l0_3.length) = True := eq_true (by omega); (try rw [show ((2 : Int)).toNat = 2 from rfl] at hx271_0); (try rw [show 2 * 4 = 8 from rfl] at hx271_0); (try rw [show ((2 : Int)).toNat = 2 from rfl] at hx271_1); (try rw [show 2 * 4 = 8 from rfl] at hx271_1); (try rw [show ((2 : Int)).toNat = 2 from rfl] at hx271_2); (try rw [show 2 * 4 = 8 from rfl] at hx271_2); (try rw [show ((2 : Int)).toNat = 2 from rfl] at hx271_3); (try rw [show 2 * 4 = 8 from rfl] at hx271_3); replace hx271_0 := (HB.out.cell (World.block_lt_of_cell? w _ hx271_0)).trans hx271_0; replace hx271_1 := (HB.out.cell (World.block_lt_of_cell? w _ hx271_1)).trans hx271_1; replace hx271_2 := (HB.out.cell (World.block_lt_of_cell? w _ hx271_2)).trans hx271_2; replace hx271_3 := (HB.out.cell (World.block_lt_of_cell? w _ hx271_3)).trans hx271_3; have HR271_3 := Aside0.mk hi271_3; have HC271_3 := Aside0.mk hl271_3; clear hi271_3 hl271_3; replace p271 := eq_true p271; replace q271 := eq_true q271) | (go_at_call 93; (with_reducible refine (graph_small.calls ((rd_T54 l0_3 2).f1) true _ A8.out).mono ?_); rintro e w' ⟨rfl, ⟨nd, rfl⟩⟩; have p273 : 0 ≤ (4 : Int) := (by omega); have q273 : 4 < (l0_3.length : Int) := of_decide_eq_true (by first | (with_reducible assumption) | assumption); obtain ⟨ad273, A273_3, c273_3, e273, hx273_0, hx273_1, hx273_2, hx273_3, hl273_3, hi273_3⟩ := at_T54 HR0_3.out 4 p273 q273; obtain rfl : ad271 = ad273 := (by injection e273); (try simp only [show (4 : Int).toNat = 4 from rfl, Nat.reduceMul, Nat.reduceEqDiff, Go.Addr.add, ↓reduceIte] at hx273_0); (try simp only [show (4 : Int).toNat = 4 from rfl, Nat.reduceMul, Nat.reduceEqDiff, Go.Addr.add, ↓reduceIte] at hx273_1); (try simp only [show (4 : Int).toNat = 4 from rfl, Nat.reduceMul, Nat.reduceEqDiff, Go.Addr.add, ↓reduceIte] at hx273_2); (try simp only [show (4 : Int).toNat = 4 from rfl, Nat.reduceMul, Nat.reduceEqDiff, Go.Addr.add, ↓reduceIte] at hx273_3); have qi273 : (4 < l0_3.length) = True := eq_true (by omega); (try rw [show ((4 : Int)).toNat = 4 from rfl] at hx273_0); (try rw [show 4 * 4 = 16 from rfl] at hx273_0); (try rw [show ((4 : Int)).toNat = 4 from rfl] at hx273_1); (try rw [show 4 * 4 = 16 from rfl] at hx273_1); (try rw [show ((4 : Int)).toNat = 4 from rfl] at hx273_2); (try rw [show 4 * 4 = 16 from rfl] at hx273_2); (try rw [show ((4 : Int)).toNat = 4 from rfl] at hx273_3); (try rw [show 4 * 4 = 16 from rfl] at hx273_3); replace hx273_0 := (HB.out.cell (World.block_lt_of_cell? w _ hx273_0)).trans hx273_0; replace hx273_1 := (HB.out.cell (World.block_lt_of_cell? w _ hx273_1)).trans hx273_1; replace hx273_2 := (HB.out.cell (World.block_lt_of_cell? w _ hx273_2)).trans hx273_2; replace hx273_3 := (HB.out.cell (World.block_lt_of_cell? w _ hx273_3)).trans hx273_3; have HR273_3 := Aside0.mk hi273_3; have HC273_3 := Aside0.mk hl273_3; clear hi273_3 hl273_3; replace p273 := eq_true p273; replace q273 := eq_true q273) | (go_at_call 93; (with_reducible refine (graph_small.calls ((rd_T54 l0_3 4).f1) t274 _ A11.out).mono ?_); rintro e w' ⟨rfl, ⟨nd, rfl⟩⟩))
      go_meet
      case rel => exact ⟨_, (!t274), (by first | rfl | (simp; done) | (simp [*]; done)), H', ⟨by first | omega | exact Nat.le_refl _⟩, ⟨by (with_reducible repeat (first | refine blk_drewN ?_ _ | refine blk_drew ?_ | refine blk_alloc ?_ _)); exact BK265.out⟩, ⟨by (with_reducible repeat (first | refine blk_drewN ?_ _ | refine blk_drew ?_ | refine blk_alloc ?_ _)); exact BK266.out⟩, ⟨bb⟩⟩
     ·rw [if_neg c10] at H
      exact absurd H (by simp)
    ·replace c9 := Bool.eq_false_iff.mpr c9
     subst c9
     have H1 : (graph_node.j0 k true a0_0 a0_1 a0_2 l0_3) = some (r1, r2, r3, r4, r5, r6, r7) := by rw [if_neg (show ¬ (false = true) by decide)] at H; exact H
     clear H
     have H := H1
     clear H1
     have H' := Aside0.mk H
     clear H
     have hnb19 := NB265_266.out
     have hnc19 := NB266_265.out
     have hcz20_0 : w4.cell? ⟨gb265, 0, none⟩ = some (.int .i64 a0_0) := (blk_cell BK265.out 0).trans rfl
     have hcz20_1 : w4.cell? ⟨gb265, 1, none⟩ = some (.int .i64 a0_1) := (blk_cell BK265.out 1).trans rfl
     have hcz20_2 : w4.cell? ⟨gb265, 2, none⟩ = some (.string a0_2) := (blk_cell BK265.out 2).trans rfl
     have hcz20_3 : w4.cell? ⟨gb265, 3, none⟩ = some (.slice A0_3 l0_3.length c0_3) := (blk_cell BK265.out 3).trans rfl
     have hfz20_0 := blk_frozen BK265.out 0
     have hfz20_1 := blk_frozen BK265.out 1
     have hfz20_2 := blk_frozen BK265.out 2
     have hfz20_3 := blk_frozen BK265.out 3
     go_wp2_with (first | ((with_reducible refine gate_dst (N := 8) rfl ?_); refine Kd.R_lit (Kd.int .i64) _ 51 ?hg (N := 8) ?hd (xs := ([1, 2, 0, 0, 0, 1] : List Int)) (inner := [.int .i64 1, .int .i64 2, .int .i64 0, .int .i64 0, .int .i64 0, .int .i64 1]) (ok := fun _ => True) (okp := fun _ => True) ?hr ?hp (fun _ hk => hk) trivial (Below.refl _ _) (Nat.le_refl _) (by simp) ?_; (case hd => rfl); (case hg => rfl); (case hr => first | (go_simp; done) | (go_simp; rfl)); (case hp => exact (Reps.one (show Kd.M (Kd.int .i64) _ _ _ 1 [.int .i64 1] from rfl) (Reps.one (show Kd.M (Kd.int .i64) _ _ _ 2 [.int .i64 2] from rfl) (Reps.one (show Kd.M (Kd.int .i64) _ _ _ 0 [.int .i64 0] from rfl) (Reps.one (show Kd.M (Kd.int .i64) _ _ _ 0 [.int .i64 0] from rfl) (Reps.one (show Kd.M (Kd.int .i64) _ _ _ 0 [.int .i64 0] from rfl) (Reps.one (show Kd.M (Kd.int .i64) _ _ _ 1 [.int .i64 1] from rfl) (Reps.none _ _)))))))); intro v268 w21 ho22 hb hg_ hnew_; clear hg_ hnew_; (first | rw [← Ny267.out] at ho22 | (simp only [Int.reduceToNat] at ho22; rw [← Ny267.out] at ho22)); have n0_ := Aside0.mk (Kd.R_lower ho22 (below_size bb)); have n1_ := Aside0.mk (blk_below (rb BK265.out) hb); have n2_ := Aside0.mk (blk_below (g := gb266) (o := .cells #[.string (⟨#[]⟩ : ByteArray), .slice none 0 0, .int .i64 0, .int .i64 0, .int .i64 0, .string (⟨#[]⟩ : ByteArray)] 48 (0, 0)) (rb BK266.out) hb); have n3_ := Aside0.mk (below_step bb hb); clear BK265; clear BK266; clear HB; have HO269 := n0_; have BK265 := n1_; have BK266 := n2_; have HB := n3_; clear n0_ n1_ n2_ n3_; clear hb ho22; obtain ⟨Ao23, co23, eo23⟩ := Kd.R_slice HO269.out; subst eo23) | ((with_reducible refine gate_callee (f := 61) rfl ?_); refine goesL_ (some 9) rfl rfl Try.func61 (by kernel_rfl) rfl #[.agg #[.int .i64 a0_0, .int .i64 a0_1, .string a0_2, .slice A0_3 l0_3.length c0_3], .slice Ao23 y267.length co23] rfl ag ?_; (with_reducible refine (graph_shaped.calls k a0_0 a0_1 a0_2 _ _ l0_3 _ _ y267 true _ ?side1 ?side2 ?side3 ?side4 A5.out).mono ?_); (case side1 => repeat (first | exact (Kd.C_below HR0_3.out HB.out) | (with_reducible refine Kd.C_alloc ?_ _) | (with_reducible refine Kd.C_drewN ?_ _) | (with_reducible refine Kd.C_drew ?_))); (case side2 => exact HC0_3.out); (case side3 => repeat (first | exact (Kd.R_reads' HO269.out).2.2 | (with_reducible refine Kd.C_alloc ?_ _) | (with_reducible refine Kd.C_drewN ?_ _) | (with_reducible refine Kd.C_drew ?_))); (case side4 => exact (Kd.R_reads' HO269.out).2.1); rintro e w24 ⟨rfl, hb⟩; refine ⟨_, rfl, ?_⟩; have n0_ := Aside0.mk (Kd.R_below (kR HO269.out) hb); have n1_ := Aside0.mk (blk_below (rb BK265.out) hb); have n2_ := Aside0.mk (blk_below (g := gb266) (o := .cells #[.string (⟨#[]⟩ : ByteArray), .slice none 0 0, .int .i64 0, .int .i64 0, .int .i64 0, .string (⟨#[]⟩ : ByteArray)] 48 (0, 0)) (rb BK266.out) hb); have n3_ := Aside0.mk (below_step bb hb); clear HO269; clear BK265; clear BK266; clear HB; have HO269 := n0_; have BK265 := n1_; have BK266 := n2_; have HB := n3_; clear n0_ n1_ n2_ n3_; (try clear hb); (try clear hb2); (try clear hk); (try clear hi); have hcz25_0 : w24.cell? ⟨gb265, 0, none⟩ = some (.int .i64 a0_0) := (blk_cell BK265.out 0).trans rfl; have hcz25_1 : w24.cell? ⟨gb265, 1, none⟩ = some (.int .i64 a0_1) := (blk_cell BK265.out 1).trans rfl; have hcz25_2 : w24.cell? ⟨gb265, 2, none⟩ = some (.string a0_2) := (blk_cell BK265.out 2).trans rfl; have hcz25_3 : w24.cell? ⟨gb265, 3, none⟩ = some (.slice A0_3 l0_3.length c0_3) := (blk_cell BK265.out 3).trans rfl; have hfz25_0 := blk_frozen BK265.out 0; have hfz25_1 := blk_frozen BK265.out 1; have hfz25_2 := blk_frozen BK265.out 2; have hfz25_3 := blk_frozen BK265.out 3; have p271 : 0 ≤ (2 : Int) := (by omega); have q271 : 2 < (l0_3.length : Int) := of_decide_eq_true (by first | (with_reducible assumption) | assumption); obtain ⟨ad271, A271_3, c271_3, e271, hx271_0, hx271_1, hx271_2, hx271_3, hl271_3, hi271_3⟩ := at_T54 HR0_3.out 2 p271 q271; cases e271; (try simp only [show (2 : Int).toNat = 2 from rfl, Nat.reduceMul, Nat.reduceEqDiff, Go.Addr.add, ↓reduceIte] at hx271_0); (try simp only [show (2 : Int).toNat = 2 from rfl, Nat.reduceMul, Nat.reduceEqDiff, Go.Addr.add, ↓reduceIte] at hx271_1); (try simp only [show (2 : Int).toNat = 2 from rfl, Nat.reduceMul, Nat.reduceEqDiff, Go.Addr.add, ↓reduceIte] at hx271_2); (try simp only [show (2 : Int).toNat = 2 from rfl, Nat.reduceMul, Nat.reduceEqDiff, Go.Addr.add, ↓reduceIte] at hx271_3); have qi271 : (2 < l0_3.length) = True := eq_true (by omega); (try rw [show ((2 : Int)).toNat = 2 from rfl] at hx271_0); (try rw [show 2 * 4 = 8 from rfl] at hx271_0); (try rw [show ((2 : Int)).toNat = 2 from rfl] at hx271_1); (try rw [show 2 * 4 = 8 from rfl] at hx271_1); (try rw [show ((2 : Int)).toNat = 2 from rfl] at hx271_2); (try rw [show 2 * 4 = 8 from rfl] at hx271_2); (try rw [show ((2 : Int)).toNat = 2 from rfl] at hx271_3); (try rw [show 2 * 4 = 8 from rfl] at hx271_3); replace hx271_0 := (HB.out.cell (World.block_lt_of_cell? w _ hx271_0)).trans hx271_0; replace hx271_1 := (HB.out.cell (World.block_lt_of_cell? w _ hx271_1)).trans hx271_1; replace hx271_2 := (HB.out.cell (World.block_lt_of_cell? w _ hx271_2)).trans hx271_2; replace hx271_3 := (HB.out.cell (World.block_lt_of_cell? w _ hx271_3)).trans hx271_3; have HR271_3 := Aside0.mk hi271_3; have HC271_3 := Aside0.mk hl271_3; clear hi271_3 hl271_3; replace p271 := eq_true p271; replace q271 := eq_true q271) | (go_at_call 93; (with_reducible refine (graph_small.calls ((rd_T54 l0_3 2).f1) false _ A8.out).mono ?_); rintro e w' ⟨rfl, ⟨nd, rfl⟩⟩))
     go_meet
     case rel => exact ⟨_, (true), (by first | rfl | (simp; done) | (simp [*]; done)), H', ⟨by first | omega | exact Nat.le_refl _⟩, ⟨by (with_reducible repeat (first | refine blk_drewN ?_ _ | refine blk_drew ?_ | refine blk_alloc ?_ _)); exact BK265.out⟩, ⟨by (with_reducible repeat (first | refine blk_drewN ?_ _ | refine blk_drew ?_ | refine blk_alloc ?_ _)); exact BK266.out⟩, ⟨bb⟩⟩
   ·rw [if_neg c7] at H
    exact absurd H (by simp)
  ·replace c6 := Bool.eq_false_iff.mpr c6
   subst c6
   have H1 : (graph_node.j0 k true a0_0 a0_1 a0_2 l0_3) = some (r1, r2, r3, r4, r5, r6, r7) := by rw [if_neg (show ¬ (false = true) by decide)] at H; exact H
   clear H
   have H := H1
   clear H1
   have H' := Aside0.mk H
   clear H
   have hnb26 := NB265_266.out
   have hnc26 := NB266_265.out
   have hcz27_0 : w4.cell? ⟨gb265, 0, none⟩ = some (.int .i64 a0_0) := (blk_cell BK265.out 0).trans rfl
   have hcz27_1 : w4.cell? ⟨gb265, 1, none⟩ = some (.int .i64 a0_1) := (blk_cell BK265.out 1).trans rfl
   have hcz27_2 : w4.cell? ⟨gb265, 2, none⟩ = some (.string a0_2) := (blk_cell BK265.out 2).trans rfl
   have hcz27_3 : w4.cell? ⟨gb265, 3, none⟩ = some (.slice A0_3 l0_3.length c0_3) := (blk_cell BK265.out 3).trans rfl
   have hfz27_0 := blk_frozen BK265.out 0
   have hfz27_1 := blk_frozen BK265.out 1
   have hfz27_2 := blk_frozen BK265.out 2
   have hfz27_3 := blk_frozen BK265.out 3
   go_wp2_with (first | ((with_reducible refine gate_dst (N := 8) rfl ?_); refine Kd.R_lit (Kd.int .i64) _ 51 ?hg (N := 8) ?hd (xs := ([1, 2, 0, 0, 0, 1] : List Int)) (inner := [.int .i64 1, .int .i64 2, .int .i64 0, .int .i64 0, .int .i64 0, .int .i64 1]) (ok := fun _ => True) (okp := fun _ => True) ?hr ?hp (fun _ hk => hk) trivial (Below.refl _ _) (Nat.le_refl _) (by simp) ?_; (case hd => rfl); (case hg => rfl); (case hr => first | (go_simp; done) | (go_simp; rfl)); (case hp => exact (Reps.one (show Kd.M (Kd.int .i64) _ _ _ 1 [.int .i64 1] from rfl) (Reps.one (show Kd.M (Kd.int .i64) _ _ _ 2 [.int .i64 2] from rfl) (Reps.one (show Kd.M (Kd.int .i64) _ _ _ 0 [.int .i64 0] from rfl) (Reps.one (show Kd.M (Kd.int .i64) _ _ _ 0 [.int .i64 0] from rfl) (Reps.one (show Kd.M (Kd.int .i64) _ _ _ 0 [.int .i64 0] from rfl) (Reps.one (show Kd.M (Kd.int .i64) _ _ _ 1 [.int .i64 1] from rfl) (Reps.none _ _)))))))); intro v268 w28 ho29 hb hg_ hnew_; clear hg_ hnew_; (first | rw [← Ny267.out] at ho29 | (simp only [Int.reduceToNat] at ho29; rw [← Ny267.out] at ho29)); have n0_ := Aside0.mk (Kd.R_lower ho29 (below_size bb)); have n1_ := Aside0.mk (blk_below (rb BK265.out) hb); have n2_ := Aside0.mk (blk_below (g := gb266) (o := .cells #[.string (⟨#[]⟩ : ByteArray), .slice none 0 0, .int .i64 0, .int .i64 0, .int .i64 0, .string (⟨#[]⟩ : ByteArray)] 48 (0, 0)) (rb BK266.out) hb); have n3_ := Aside0.mk (below_step bb hb); clear BK265; clear BK266; clear HB; have HO269 := n0_; have BK265 := n1_; have BK266 := n2_; have HB := n3_; clear n0_ n1_ n2_ n3_; clear hb ho29; obtain ⟨Ao30, co30, eo30⟩ := Kd.R_slice HO269.out; subst eo30) | ((with_reducible refine gate_callee (f := 61) rfl ?_); refine goesL_ (some 9) rfl rfl Try.func61 (by kernel_rfl) rfl #[.agg #[.int .i64 a0_0, .int .i64 a0_1, .string a0_2, .slice A0_3 l0_3.length c0_3], .slice Ao30 y267.length co30] rfl ag ?_; (with_reducible refine (graph_shaped.calls k a0_0 a0_1 a0_2 _ _ l0_3 _ _ y267 false _ ?side1 ?side2 ?side3 ?side4 A5.out).mono ?_); (case side1 => repeat (first | exact (Kd.C_below HR0_3.out HB.out) | (with_reducible refine Kd.C_alloc ?_ _) | (with_reducible refine Kd.C_drewN ?_ _) | (with_reducible refine Kd.C_drew ?_))); (case side2 => exact HC0_3.out); (case side3 => repeat (first | exact (Kd.R_reads' HO269.out).2.2 | (with_reducible refine Kd.C_alloc ?_ _) | (with_reducible refine Kd.C_drewN ?_ _) | (with_reducible refine Kd.C_drew ?_))); (case side4 => exact (Kd.R_reads' HO269.out).2.1); rintro e w31 ⟨rfl, hb⟩; refine ⟨_, rfl, ?_⟩; have n0_ := Aside0.mk (Kd.R_below (kR HO269.out) hb); have n1_ := Aside0.mk (blk_below (rb BK265.out) hb); have n2_ := Aside0.mk (blk_below (g := gb266) (o := .cells #[.string (⟨#[]⟩ : ByteArray), .slice none 0 0, .int .i64 0, .int .i64 0, .int .i64 0, .string (⟨#[]⟩ : ByteArray)] 48 (0, 0)) (rb BK266.out) hb); have n3_ := Aside0.mk (below_step bb hb); clear HO269; clear BK265; clear BK266; clear HB; have HO269 := n0_; have BK265 := n1_; have BK266 := n2_; have HB := n3_; clear n0_ n1_ n2_ n3_; (try clear hb); (try clear hb2); (try clear hk); (try clear hi)))
   go_meet
   case rel => exact ⟨_, (true), (by first | rfl | (simp; done) | (simp [*]; done)), H', ⟨by first | omega | exact Nat.le_refl _⟩, ⟨by (with_reducible repeat (first | refine blk_drewN ?_ _ | refine blk_drew ?_ | refine blk_alloc ?_ _)); exact BK265.out⟩, ⟨by (with_reducible repeat (first | refine blk_drewN ?_ _ | refine blk_drew ?_ | refine blk_alloc ?_ _)); exact BK266.out⟩, ⟨bb⟩⟩
 case rest =>
  clear HC2
  try clear c1
  try clear c2
  try clear p2
  try clear q2
  try clear hx2
  try clear qi2
  try clear c6
  try clear c7
  try clear c7b0
  try clear c7b1
  try clear c9
  try clear c10
  try clear c10b0
  try clear c10b1
  try clear c12
  try clear c19
  try clear c26
  try clear c27
  try clear p27
  try clear q27
  try clear hx27
  try clear qi27
  try clear hcz13_0
  try clear hcz13_1
  try clear hcz13_2
  try clear hcz13_3
  try clear hcz18_0
  try clear hcz18_1
  try clear hcz18_2
  try clear hcz18_3
  try clear hcz20_0
  try clear hcz20_1
  try clear hcz20_2
  try clear hcz20_3
  try clear hcz25_0
  try clear hcz25_1
  try clear hcz25_2
  try clear hcz25_3
  try clear hcz27_0
  try clear hcz27_1
  try clear hcz27_2
  try clear hcz27_3
  try clear hfz13_0
  try clear hfz13_1
  try clear hfz13_2
  try clear hfz13_3
  try clear hfz18_0
  try clear hfz18_1
  try clear hfz18_2
  try clear hfz18_3
  try clear hfz20_0
  try clear hfz20_1
  try clear hfz20_2
  try clear hfz20_3
  try clear hfz25_0
  try clear hfz25_1
  try clear hfz25_2
  try clear hfz25_3
  try clear hfz27_0
  try clear hfz27_1
  try clear hfz27_2
  try clear hfz27_3
  try clear hx271_0
  try clear hx271_1
  try clear hx271_2
  try clear hx271_3
  try clear hx273_0
  try clear hx273_1
  try clear hx273_2
  try clear hx273_3
  try clear p271
  try clear p273
  try clear q271
  try clear q273
  obtain ⟨kq, x28_1, rfl, HA, HJ1, BK265, BK266, HB⟩ := hcut
  cases kq with
  | zero => exact absurd HA.out (by simp [graph_node.j0])
  | succ kj1 =>
   have H := HA.out
   clear HA
   simp only [graph_node.j0] at H
   by_cases c32 : x28_1 = true
   ·subst c32
    have H1 : (some ((⟨#[]⟩ : ByteArray), ([] : List ByteArray), 0, 0, 0, (⟨#[]⟩ : ByteArray), false)) = some (r1, r2, r3, r4, r5, r6, r7) := by rw [if_pos rfl] at H; exact H
    clear H
    have H := H1
    clear H1
    simp only [Option.some.injEq, Prod.mk.injEq] at H
    obtain ⟨rfl, rfl, rfl, rfl, rfl, rfl, rfl⟩ := H
    have hnb33 := NB266_265.out
    have hnc33 := NB265_266.out
    have hcz34_0 : wc.cell? ⟨gb266, 0, none⟩ = some (.string (⟨#[]⟩ : ByteArray)) := (blk_cell BK266.out 0).trans rfl
    have hcz34_1 : wc.cell? ⟨gb266, 1, none⟩ = some (.slice none 0 0) := (blk_cell BK266.out 1).trans rfl
    have hcz34_2 : wc.cell? ⟨gb266, 2, none⟩ = some (.int .i64 0) := (blk_cell BK266.out 2).trans rfl
    have hcz34_3 : wc.cell? ⟨gb266, 3, none⟩ = some (.int .i64 0) := (blk_cell BK266.out 3).trans rfl
    have hcz34_4 : wc.cell? ⟨gb266, 4, none⟩ = some (.int .i64 0) := (blk_cell BK266.out 4).trans rfl
    have hcz34_5 : wc.cell? ⟨gb266, 5, none⟩ = some (.string (⟨#[]⟩ : ByteArray)) := (blk_cell BK266.out 5).trans rfl
    have hfz34_0 := blk_frozen BK266.out 0
    have hfz34_1 := blk_frozen BK266.out 1
    have hfz34_2 := blk_frozen BK266.out 2
    have hfz34_3 := blk_frozen BK266.out 3
    have hfz34_4 := blk_frozen BK266.out 4
    have hfz34_5 := blk_frozen BK266.out 5
    go_wp2
    refine bodyPost_ret (results_ct rfl _ _ gb266 48 #[.string (⟨#[]⟩ : ByteArray), .slice none 0 0, .int .i64 0, .int .i64 0, .int .i64 0, .string (⟨#[]⟩ : ByteArray)] (0, 0) _ rfl (rb (blk_put (cs := #[.string (⟨#[]⟩ : ByteArray), .slice none 0 0, .int .i64 0, .int .i64 0, .int .i64 0, .string (⟨#[]⟩ : ByteArray)]) (rb (blk_put (cs := #[.string (⟨#[]⟩ : ByteArray), .slice none 0 0, .int .i64 0, .int .i64 0, .int .i64 0, .string (⟨#[]⟩ : ByteArray)]) (rb (blk_put (cs := #[.string (⟨#[]⟩ : ByteArray), .slice none 0 0, .int .i64 0, .int .i64 0, .int .i64 0, .string (⟨#[]⟩ : ByteArray)]) (rb (blk_put (cs := #[.string (⟨#[]⟩ : ByteArray), .slice none 0 0, .int .i64 0, .int .i64 0, .int .i64 0, .string (⟨#[]⟩ : ByteArray)]) (rb (blk_put (cs := #[.string (⟨#[]⟩ : ByteArray), .slice none 0 0, .int .i64 0, .int .i64 0, .int .i64 0, .string (⟨#[]⟩ : ByteArray)]) (rb (blk_put (cs := #[.string (⟨#[]⟩ : ByteArray), .slice none 0 0, .int .i64 0, .int .i64 0, .int .i64 0, .string (⟨#[]⟩ : ByteArray)]) (rb BK266.out) 0 _ rfl)) 1 _ rfl)) 2 _ rfl)) 3 _ rfl)) 4 _ rfl)) 5 _ rfl)) Try.underlying48 rfl (by kernel_rfl)) rfl ?_
    exact ⟨_, by first | rfl | (simp [errW_none, errW_some] <;> rfl) | (simp [*, errW_none, errW_some] <;> rfl), kn, bb⟩
   ·replace c32 := Bool.eq_false_iff.mpr c32
    subst c32
    have H1 : (if 0 < (l0_3.length : Int) then (if 2 < (l0_3.length : Int) then (if 3 < (l0_3.length : Int) then (if 4 < (l0_3.length : Int) then (if 5 < (l0_3.length : Int) then (if 1 < (l0_3.length : Int) then (graph_node.l0 kj1 ((rd_T54 l0_3 1).f3) (((rd_T54 l0_3 1).f3).length : Int) 0 ((rd_T54 l0_3 0).f2) ([] : List ByteArray) ((rd_T54 l0_3 2).f1) ((rd_T54 l0_3 3).f1) ((rd_T54 l0_3 4).f1) ((rd_T54 l0_3 5).f2)) else (none)) else (none)) else (none)) else (none)) else (none)) else (none)) = some (r1, r2, r3, r4, r5, r6, r7) := by rw [if_neg (show ¬ (false = true) by decide)] at H; exact H
    clear H
    have H := H1
    clear H1
    by_cases c35 : 0 < (l0_3.length : Int)
    ·rw [if_pos c35] at H
     have c35b0 : decide (0 < (l0_3.length : Int)) = true := decide_eq_true c35
     have c35b1 : decide (0 < l0_3.length) = true := decide_eq_true (by omega)
     clear c35
     by_cases c36 : 2 < (l0_3.length : Int)
     ·rw [if_pos c36] at H
      have c36b0 : decide (2 < (l0_3.length : Int)) = true := decide_eq_true c36
      have c36b1 : decide (2 < l0_3.length) = true := decide_eq_true (by omega)
      clear c36
      by_cases c37 : 3 < (l0_3.length : Int)
      ·rw [if_pos c37] at H
       have c37b0 : decide (3 < (l0_3.length : Int)) = true := decide_eq_true c37
       have c37b1 : decide (3 < l0_3.length) = true := decide_eq_true (by omega)
       clear c37
       by_cases c38 : 4 < (l0_3.length : Int)
       ·rw [if_pos c38] at H
        have c38b0 : decide (4 < (l0_3.length : Int)) = true := decide_eq_true c38
        have c38b1 : decide (4 < l0_3.length) = true := decide_eq_true (by omega)
        clear c38
        by_cases c39 : 5 < (l0_3.length : Int)
        ·rw [if_pos c39] at H
         have c39b0 : decide (5 < (l0_3.length : Int)) = true := decide_eq_true c39
         have c39b1 : decide (5 < l0_3.length) = true := decide_eq_true (by omega)
         clear c39
         by_cases c40 : 1 < (l0_3.length : Int)
         ·rw [if_pos c40] at H
          have c40b0 : decide (1 < (l0_3.length : Int)) = true := decide_eq_true c40
          have c40b1 : decide (1 < l0_3.length) = true := decide_eq_true (by omega)
          clear c40
          have H' := Aside0.mk H
          clear H
          try go_wp2
          have n0_ := Aside0.mk (blk_drew BK265.out)
          have n1_ := Aside0.mk (blk_drew BK266.out)
          have n2_ := Aside0.mk (below_drew1 HB.out)
          clear BK265
          clear BK266
          clear HB
          have BK265 := n0_
          have BK266 := n1_
          have HB := n2_
          clear n0_ n1_ n2_
          have p275 : 0 ≤ (0 : Int) := (by omega)
          have q275 : 0 < (l0_3.length : Int) := of_decide_eq_true (by first | (with_reducible assumption) | assumption)
          obtain ⟨ad275, A275_3, c275_3, e275, hx275_0, hx275_1, hx275_2, hx275_3, hl275_3, hi275_3⟩ := at_T54 HR0_3.out 0 p275 q275
          have hw275_3 := hx275_3
          (try rw [show ((0 : Int)).toNat = 0 from rfl] at hw275_3)
          (try rw [show 0 * 4 = 0 from rfl] at hw275_3)
          (try rw [Addr.add_zero'] at hw275_3)
          have hw275_2 := hx275_2
          (try rw [show ((0 : Int)).toNat = 0 from rfl] at hw275_2)
          (try rw [show 0 * 4 = 0 from rfl] at hw275_2)
          (try rw [Addr.add_zero'] at hw275_2)
          have hw275_1 := hx275_1
          (try rw [show ((0 : Int)).toNat = 0 from rfl] at hw275_1)
          (try rw [show 0 * 4 = 0 from rfl] at hw275_1)
          (try rw [Addr.add_zero'] at hw275_1)
          have hw275_0 := hx275_0
          (try rw [show ((0 : Int)).toNat = 0 from rfl] at hw275_0)
          (try rw [show 0 * 4 = 0 from rfl] at hw275_0)
          (try rw [Addr.add_zero'] at hw275_0)
          cases e275
          have qi275 : (0 < l0_3.length) = True := eq_true (by omega)
          (try rw [show ((0 : Int)).toNat = 0 from rfl] at hx275_0)
          (try rw [show 0 * 4 = 0 from rfl] at hx275_0)
          (try rw [Addr.add_zero'] at hx275_0)
          (try rw [show ((0 : Int)).toNat = 0 from rfl] at hx275_1)
          (try rw [show 0 * 4 = 0 from rfl] at hx275_1)
          (try rw [Addr.add_zero'] at hx275_1)
          (try rw [show ((0 : Int)).toNat = 0 from rfl] at hx275_2)
          (try rw [show 0 * 4 = 0 from rfl] at hx275_2)
          (try rw [Addr.add_zero'] at hx275_2)
          (try rw [show ((0 : Int)).toNat = 0 from rfl] at hx275_3)
          (try rw [show 0 * 4 = 0 from rfl] at hx275_3)
          (try rw [Addr.add_zero'] at hx275_3)
          replace hx275_0 := (HB.out.cell (World.block_lt_of_cell? w _ hx275_0)).trans hx275_0
          replace hx275_1 := (HB.out.cell (World.block_lt_of_cell? w _ hx275_1)).trans hx275_1
          replace hx275_2 := (HB.out.cell (World.block_lt_of_cell? w _ hx275_2)).trans hx275_2
          replace hx275_3 := (HB.out.cell (World.block_lt_of_cell? w _ hx275_3)).trans hx275_3
          have HR275_3 := Aside0.mk hi275_3
          have HC275_3 := Aside0.mk hl275_3
          clear hi275_3 hl275_3
          replace p275 := eq_true p275
          replace q275 := eq_true q275
          have p276 : 0 ≤ (2 : Int) := (by omega)
          have q276 : 2 < (l0_3.length : Int) := of_decide_eq_true (by first | (with_reducible assumption) | assumption)
          obtain ⟨ad276, A276_3, c276_3, e276, hx276_0, hx276_1, hx276_2, hx276_3, hl276_3, hi276_3⟩ := at_T54 HR0_3.out 2 p276 q276
          have hw276_3 := hx276_3
          (try rw [show ((2 : Int)).toNat = 2 from rfl] at hw276_3)
          (try rw [show 2 * 4 = 8 from rfl] at hw276_3)
          (try simp only [Nat.reduceMul, Nat.reduceEqDiff, Go.Addr.add, ↓reduceIte] at hw276_3)
          have hw276_2 := hx276_2
          (try rw [show ((2 : Int)).toNat = 2 from rfl] at hw276_2)
          (try rw [show 2 * 4 = 8 from rfl] at hw276_2)
          (try simp only [Nat.reduceMul, Nat.reduceEqDiff, Go.Addr.add, ↓reduceIte] at hw276_2)
          have hw276_1 := hx276_1
          (try rw [show ((2 : Int)).toNat = 2 from rfl] at hw276_1)
          (try rw [show 2 * 4 = 8 from rfl] at hw276_1)
          (try simp only [Nat.reduceMul, Nat.reduceEqDiff, Go.Addr.add, ↓reduceIte] at hw276_1)
          have hw276_0 := hx276_0
          (try rw [show ((2 : Int)).toNat = 2 from rfl] at hw276_0)
          (try rw [show 2 * 4 = 8 from rfl] at hw276_0)
          (try simp only [Nat.reduceMul, Nat.reduceEqDiff, Go.Addr.add, ↓reduceIte] at hw276_0)
          obtain rfl : ad275 = ad276 := (by injection e276)
          (try simp only [show (2 : Int).toNat = 2 from rfl, Nat.reduceMul, Nat.reduceEqDiff, Go.Addr.add, ↓reduceIte] at hx276_0 hx276_1 hx276_2 hx276_3)
          have qi276 : (2 < l0_3.length) = True := eq_true (by omega)
          (try rw [show ((2 : Int)).toNat = 2 from rfl] at hx276_0)
          (try rw [show 2 * 4 = 8 from rfl] at hx276_0)
          (try rw [show ((2 : Int)).toNat = 2 from rfl] at hx276_1)
          (try rw [show 2 * 4 = 8 from rfl] at hx276_1)
          (try rw [show ((2 : Int)).toNat = 2 from rfl] at hx276_2)
          (try rw [show 2 * 4 = 8 from rfl] at hx276_2)
          (try rw [show ((2 : Int)).toNat = 2 from rfl] at hx276_3)
          (try rw [show 2 * 4 = 8 from rfl] at hx276_3)
          replace hx276_0 := (HB.out.cell (World.block_lt_of_cell? w _ hx276_0)).trans hx276_0
          replace hx276_1 := (HB.out.cell (World.block_lt_of_cell? w _ hx276_1)).trans hx276_1
          replace hx276_2 := (HB.out.cell (World.block_lt_of_cell? w _ hx276_2)).trans hx276_2
          replace hx276_3 := (HB.out.cell (World.block_lt_of_cell? w _ hx276_3)).trans hx276_3
          have HR276_3 := Aside0.mk hi276_3
          have HC276_3 := Aside0.mk hl276_3
          clear hi276_3 hl276_3
          replace p276 := eq_true p276
          replace q276 := eq_true q276
          have p277 : 0 ≤ (3 : Int) := (by omega)
          have q277 : 3 < (l0_3.length : Int) := of_decide_eq_true (by first | (with_reducible assumption) | assumption)
          obtain ⟨ad277, A277_3, c277_3, e277, hx277_0, hx277_1, hx277_2, hx277_3, hl277_3, hi277_3⟩ := at_T54 HR0_3.out 3 p277 q277
          have hw277_3 := hx277_3
          (try rw [show ((3 : Int)).toNat = 3 from rfl] at hw277_3)
          (try rw [show 3 * 4 = 12 from rfl] at hw277_3)
          (try simp only [Nat.reduceMul, Nat.reduceEqDiff, Go.Addr.add, ↓reduceIte] at hw277_3)
          have hw277_2 := hx277_2
          (try rw [show ((3 : Int)).toNat = 3 from rfl] at hw277_2)
          (try rw [show 3 * 4 = 12 from rfl] at hw277_2)
          (try simp only [Nat.reduceMul, Nat.reduceEqDiff, Go.Addr.add, ↓reduceIte] at hw277_2)
          have hw277_1 := hx277_1
          (try rw [show ((3 : Int)).toNat = 3 from rfl] at hw277_1)
          (try rw [show 3 * 4 = 12 from rfl] at hw277_1)
          (try simp only [Nat.reduceMul, Nat.reduceEqDiff, Go.Addr.add, ↓reduceIte] at hw277_1)
          have hw277_0 := hx277_0
          (try rw [show ((3 : Int)).toNat = 3 from rfl] at hw277_0)
          (try rw [show 3 * 4 = 12 from rfl] at hw277_0)
          (try simp only [Nat.reduceMul, Nat.reduceEqDiff, Go.Addr.add, ↓reduceIte] at hw277_0)
          obtain rfl : ad275 = ad277 := (by injection e277)
          (try simp only [show (3 : Int).toNat = 3 from rfl, Nat.reduceMul, Nat.reduceEqDiff, Go.Addr.add, ↓reduceIte] at hx277_0 hx277_1 hx277_2 hx277_3)
          have qi277 : (3 < l0_3.length) = True := eq_true (by omega)
          (try rw [show ((3 : Int)).toNat = 3 from rfl] at hx277_0)
          (try rw [show 3 * 4 = 12 from rfl] at hx277_0)
          (try rw [show ((3 : Int)).toNat = 3 from rfl] at hx277_1)
          (try rw [show 3 * 4 = 12 from rfl] at hx277_1)
          (try rw [show ((3 : Int)).toNat = 3 from rfl] at hx277_2)
          (try rw [show 3 * 4 = 12 from rfl] at hx277_2)
          (try rw [show ((3 : Int)).toNat = 3 from rfl] at hx277_3)
          (try rw [show 3 * 4 = 12 from rfl] at hx277_3)
          replace hx277_0 := (HB.out.cell (World.block_lt_of_cell? w _ hx277_0)).trans hx277_0
          replace hx277_1 := (HB.out.cell (World.block_lt_of_cell? w _ hx277_1)).trans hx277_1
          replace hx277_2 := (HB.out.cell (World.block_lt_of_cell? w _ hx277_2)).trans hx277_2
          replace hx277_3 := (HB.out.cell (World.block_lt_of_cell? w _ hx277_3)).trans hx277_3
          have HR277_3 := Aside0.mk hi277_3
          have HC277_3 := Aside0.mk hl277_3
          clear hi277_3 hl277_3
          replace p277 := eq_true p277
          replace q277 := eq_true q277
          have p278 : 0 ≤ (4 : Int) := (by omega)
          have q278 : 4 < (l0_3.length : Int) := of_decide_eq_true (by first | (with_reducible assumption) | assumption)
          obtain ⟨ad278, A278_3, c278_3, e278, hx278_0, hx278_1, hx278_2, hx278_3, hl278_3, hi278_3⟩ := at_T54 HR0_3.out 4 p278 q278
          have hw278_3 := hx278_3
          (try rw [show ((4 : Int)).toNat = 4 from rfl] at hw278_3)
          (try rw [show 4 * 4 = 16 from rfl] at hw278_3)
          (try simp only [Nat.reduceMul, Nat.reduceEqDiff, Go.Addr.add, ↓reduceIte] at hw278_3)
          have hw278_2 := hx278_2
          (try rw [show ((4 : Int)).toNat = 4 from rfl] at hw278_2)
          (try rw [show 4 * 4 = 16 from rfl] at hw278_2)
          (try simp only [Nat.reduceMul, Nat.reduceEqDiff, Go.Addr.add, ↓reduceIte] at hw278_2)
          have hw278_1 := hx278_1
          (try rw [show ((4 : Int)).toNat = 4 from rfl] at hw278_1)
          (try rw [show 4 * 4 = 16 from rfl] at hw278_1)
          (try simp only [Nat.reduceMul, Nat.reduceEqDiff, Go.Addr.add, ↓reduceIte] at hw278_1)
          have hw278_0 := hx278_0
          (try rw [show ((4 : Int)).toNat = 4 from rfl] at hw278_0)
          (try rw [show 4 * 4 = 16 from rfl] at hw278_0)
          (try simp only [Nat.reduceMul, Nat.reduceEqDiff, Go.Addr.add, ↓reduceIte] at hw278_0)
          obtain rfl : ad275 = ad278 := (by injection e278)
          (try simp only [show (4 : Int).toNat = 4 from rfl, Nat.reduceMul, Nat.reduceEqDiff, Go.Addr.add, ↓reduceIte] at hx278_0 hx278_1 hx278_2 hx278_3)
          have qi278 : (4 < l0_3.length) = True := eq_true (by omega)
          (try rw [show ((4 : Int)).toNat = 4 from rfl] at hx278_0)
          (try rw [show 4 * 4 = 16 from rfl] at hx278_0)
          (try rw [show ((4 : Int)).toNat = 4 from rfl] at hx278_1)
          (try rw [show 4 * 4 = 16 from rfl] at hx278_1)
          (try rw [show ((4 : Int)).toNat = 4 from rfl] at hx278_2)
          (try rw [show 4 * 4 = 16 from rfl] at hx278_2)
          (try rw [show ((4 : Int)).toNat = 4 from rfl] at hx278_3)
          (try rw [show 4 * 4 = 16 from rfl] at hx278_3)
          replace hx278_0 := (HB.out.cell (World.block_lt_of_cell? w _ hx278_0)).trans hx278_0
          replace hx278_1 := (HB.out.cell (World.block_lt_of_cell? w _ hx278_1)).trans hx278_1
          replace hx278_2 := (HB.out.cell (World.block_lt_of_cell? w _ hx278_2)).trans hx278_2
          replace hx278_3 := (HB.out.cell (World.block_lt_of_cell? w _ hx278_3)).trans hx278_3
          have HR278_3 := Aside0.mk hi278_3
          have HC278_3 := Aside0.mk hl278_3
          clear hi278_3 hl278_3
          replace p278 := eq_true p278
          replace q278 := eq_true q278
          have p279 : 0 ≤ (5 : Int) := (by omega)
          have q279 : 5 < (l0_3.length : Int) := of_decide_eq_true (by first | (with_reducible assumption) | assumption)
          obtain ⟨ad279, A279_3, c279_3, e279, hx279_0, hx279_1, hx279_2, hx279_3, hl279_3, hi279_3⟩ := at_T54 HR0_3.out 5 p279 q279
          have hw279_3 := hx279_3
          (try rw [show ((5 : Int)).toNat = 5 from rfl] at hw279_3)
          (try rw [show 5 * 4 = 20 from rfl] at hw279_3)
          (try simp only [Nat.reduceMul, Nat.reduceEqDiff, Go.Addr.add, ↓reduceIte] at hw279_3)
          have hw279_2 := hx279_2
          (try rw [show ((5 : Int)).toNat = 5 from rfl] at hw279_2)
          (try rw [show 5 * 4 = 20 from rfl] at hw279_2)
          (try simp only [Nat.reduceMul, Nat.reduceEqDiff, Go.Addr.add, ↓reduceIte] at hw279_2)
          have hw279_1 := hx279_1
          (try rw [show ((5 : Int)).toNat = 5 from rfl] at hw279_1)
          (try rw [show 5 * 4 = 20 from rfl] at hw279_1)
          (try simp only [Nat.reduceMul, Nat.reduceEqDiff, Go.Addr.add, ↓reduceIte] at hw279_1)
          have hw279_0 := hx279_0
          (try rw [show ((5 : Int)).toNat = 5 from rfl] at hw279_0)
          (try rw [show 5 * 4 = 20 from rfl] at hw279_0)
          (try simp only [Nat.reduceMul, Nat.reduceEqDiff, Go.Addr.add, ↓reduceIte] at hw279_0)
          obtain rfl : ad275 = ad279 := (by injection e279)
          (try simp only [show (5 : Int).toNat = 5 from rfl, Nat.reduceMul, Nat.reduceEqDiff, Go.Addr.add, ↓reduceIte] at hx279_0 hx279_1 hx279_2 hx279_3)
          have qi279 : (5 < l0_3.length) = True := eq_true (by omega)
          (try rw [show ((5 : Int)).toNat = 5 from rfl] at hx279_0)
          (try rw [show 5 * 4 = 20 from rfl] at hx279_0)
          (try rw [show ((5 : Int)).toNat = 5 from rfl] at hx279_1)
          (try rw [show 5 * 4 = 20 from rfl] at hx279_1)
          (try rw [show ((5 : Int)).toNat = 5 from rfl] at hx279_2)
          (try rw [show 5 * 4 = 20 from rfl] at hx279_2)
          (try rw [show ((5 : Int)).toNat = 5 from rfl] at hx279_3)
          (try rw [show 5 * 4 = 20 from rfl] at hx279_3)
          replace hx279_0 := (HB.out.cell (World.block_lt_of_cell? w _ hx279_0)).trans hx279_0
          replace hx279_1 := (HB.out.cell (World.block_lt_of_cell? w _ hx279_1)).trans hx279_1
          replace hx279_2 := (HB.out.cell (World.block_lt_of_cell? w _ hx279_2)).trans hx279_2
          replace hx279_3 := (HB.out.cell (World.block_lt_of_cell? w _ hx279_3)).trans hx279_3
          have HR279_3 := Aside0.mk hi279_3
          have HC279_3 := Aside0.mk hl279_3
          clear hi279_3 hl279_3
          replace p279 := eq_true p279
          replace q279 := eq_true q279
          refine start_ (n := 28) (S := fun w' => w'.cell? ⟨gb265, 0, none⟩ = some (.int .i64 a0_0) ∧ w'.cell? ⟨gb265, 1, none⟩ = some (.int .i64 a0_1) ∧ w'.cell? ⟨gb265, 2, none⟩ = some (.string a0_2) ∧ w'.cell? ⟨gb265, 3, none⟩ = some (.slice (some ad275) l0_3.length c0_3) ∧ w'.cell? ad275 = some (.int .i64 ((rd_T54 l0_3 0).f0)) ∧ w'.cell? ⟨ad275.block, ad275.off + 1, none⟩ = some (.int .i64 ((rd_T54 l0_3 0).f1)) ∧ w'.cell? ⟨ad275.block, ad275.off + 2, none⟩ = some (.string ((rd_T54 l0_3 0).f2)) ∧ w'.cell? ⟨ad275.block, ad275.off + 3, none⟩ = some (.slice A275_3 ((rd_T54 l0_3 0).f3).length c275_3) ∧ w'.cell? ⟨ad275.block, ad275.off + 8, none⟩ = some (.int .i64 ((rd_T54 l0_3 2).f0)) ∧ w'.cell? ⟨ad275.block, ad275.off + 8 + 1, none⟩ = some (.int .i64 ((rd_T54 l0_3 2).f1)) ∧ w'.cell? ⟨ad275.block, ad275.off + 8 + 2, none⟩ = some (.string ((rd_T54 l0_3 2).f2)) ∧ w'.cell? ⟨ad275.block, ad275.off + 8 + 3, none⟩ = some (.slice A276_3 ((rd_T54 l0_3 2).f3).length c276_3) ∧ w'.cell? ⟨ad275.block, ad275.off + 12, none⟩ = some (.int .i64 ((rd_T54 l0_3 3).f0)) ∧ w'.cell? ⟨ad275.block, ad275.off + 12 + 1, none⟩ = some (.int .i64 ((rd_T54 l0_3 3).f1)) ∧ w'.cell? ⟨ad275.block, ad275.off + 12 + 2, none⟩ = some (.string ((rd_T54 l0_3 3).f2)) ∧ w'.cell? ⟨ad275.block, ad275.off + 12 + 3, none⟩ = some (.slice A277_3 ((rd_T54 l0_3 3).f3).length c277_3) ∧ w'.cell? ⟨ad275.block, ad275.off + 16, none⟩ = some (.int .i64 ((rd_T54 l0_3 4).f0)) ∧ w'.cell? ⟨ad275.block, ad275.off + 16 + 1, none⟩ = some (.int .i64 ((rd_T54 l0_3 4).f1)) ∧ w'.cell? ⟨ad275.block, ad275.off + 16 + 2, none⟩ = some (.string ((rd_T54 l0_3 4).f2)) ∧ w'.cell? ⟨ad275.block, ad275.off + 16 + 3, none⟩ = some (.slice A278_3 ((rd_T54 l0_3 4).f3).length c278_3) ∧ w'.cell? ⟨ad275.block, ad275.off + 20, none⟩ = some (.int .i64 ((rd_T54 l0_3 5).f0)) ∧ w'.cell? ⟨ad275.block, ad275.off + 20 + 1, none⟩ = some (.int .i64 ((rd_T54 l0_3 5).f1)) ∧ w'.cell? ⟨ad275.block, ad275.off + 20 + 2, none⟩ = some (.string ((rd_T54 l0_3 5).f2)) ∧ w'.cell? ⟨ad275.block, ad275.off + 20 + 3, none⟩ = some (.slice A279_3 ((rd_T54 l0_3 5).f3).length c279_3)) (ds := []) #[false, false, false, false, false, false, false, false, false, false, false, false, false, false, false, false, false, false, false, false, false, false, false, false, false, false, false, false] (by kernel_rfl) rfl rfl ⟨(blk_cell BK265.out 0).trans rfl, (blk_cell BK265.out 1).trans rfl, (blk_cell BK265.out 2).trans rfl, (blk_cell BK265.out 3).trans rfl, ((HB.out.cell (World.block_lt_of_cell? w _ hw275_0)).trans hw275_0), ((HB.out.cell (World.block_lt_of_cell? w _ hw275_1)).trans hw275_1), ((HB.out.cell (World.block_lt_of_cell? w _ hw275_2)).trans hw275_2), ((HB.out.cell (World.block_lt_of_cell? w _ hw275_3)).trans hw275_3), ((HB.out.cell (World.block_lt_of_cell? w _ hw276_0)).trans hw276_0), ((HB.out.cell (World.block_lt_of_cell? w _ hw276_1)).trans hw276_1), ((HB.out.cell (World.block_lt_of_cell? w _ hw276_2)).trans hw276_2), ((HB.out.cell (World.block_lt_of_cell? w _ hw276_3)).trans hw276_3), ((HB.out.cell (World.block_lt_of_cell? w _ hw277_0)).trans hw277_0), ((HB.out.cell (World.block_lt_of_cell? w _ hw277_1)).trans hw277_1), ((HB.out.cell (World.block_lt_of_cell? w _ hw277_2)).trans hw277_2), ((HB.out.cell (World.block_lt_of_cell? w _ hw277_3)).trans hw277_3), ((HB.out.cell (World.block_lt_of_cell? w _ hw278_0)).trans hw278_0), ((HB.out.cell (World.block_lt_of_cell? w _ hw278_1)).trans hw278_1), ((HB.out.cell (World.block_lt_of_cell? w _ hw278_2)).trans hw278_2), ((HB.out.cell (World.block_lt_of_cell? w _ hw278_3)).trans hw278_3), ((HB.out.cell (World.block_lt_of_cell? w _ hw279_0)).trans hw279_0), ((HB.out.cell (World.block_lt_of_cell? w _ hw279_1)).trans hw279_1), ((HB.out.cell (World.block_lt_of_cell? w _ hw279_2)).trans hw279_2), ((HB.out.cell (World.block_lt_of_cell? w _ hw279_3)).trans hw279_3)⟩ (fun hHeld => ?_); refine with_tabW graph_node.tab3 graph_node.bits3 (fun HT_ HW_ => ?_)
          generalize wc.drew = w41 at BK265 BK266 HB HR275_3 HR276_3 HR277_3 HR278_3 HR279_3 hx275_0 hx275_1 hx275_2 hx275_3 hx276_0 hx276_1 hx276_2 hx276_3 hx277_0 hx277_1 hx277_2 hx277_3 hx278_0 hx278_1 hx278_2 hx278_3 hx279_0 hx279_1 hx279_2 hx279_3 hHeld ⊢
          refine pure_ (i := 0) (N := some 30) (v := ?_) (a' := ?_) #[true, false, false, false, false, false, false, false, false, false, false, false, false, false, false, false, false, false, false, false, false, false, false, false, false, false, false, false] rfl rfl (any_of HT_.out (by kernel_rfl)) (fun _ _ _ h => h) (Or.inl ⟨by rfl, ?_⟩) ?_ ?_
          rotate_left
          ·intro w'
           go_simp
           with_reducible rfl
          rotate_left
          ·simp only [Act.put, List.setIfInBounds_toArray, List.set_cons_zero, List.set_cons_succ, i64_w, i32_w]
           rfl
          refine pure_ (i := 5) (N := some 35) (v := ?_) (a' := ?_) #[true, false, false, false, false, true, false, false, false, false, false, false, false, false, false, false, false, false, false, false, false, false, false, false, false, false, false, false] rfl rfl (any_of HT_.out (by kernel_rfl)) (fun _ _ _ h => h) (Or.inl ⟨by rfl, ?_⟩) ?_ ?_
          rotate_left
          ·intro w'
           go_simp
           with_reducible rfl
          rotate_left
          ·simp only [Act.put, List.setIfInBounds_toArray, List.set_cons_zero, List.set_cons_succ, i64_w, i32_w]
           rfl
          refine pure_ (i := 10) (N := some 40) (v := ?_) (a' := ?_) #[true, false, false, false, false, true, false, false, false, false, true, false, false, false, false, false, false, false, false, false, false, false, false, false, false, false, false, false] rfl rfl (any_of HT_.out (by kernel_rfl)) (fun _ _ _ h => h) (Or.inl ⟨by rfl, ?_⟩) ?_ ?_
          rotate_left
          ·intro w'
           go_simp
           with_reducible rfl
          rotate_left
          ·simp only [Act.put, List.setIfInBounds_toArray, List.set_cons_zero, List.set_cons_succ, i64_w, i32_w]
           rfl
          refine pure_ (i := 15) (N := some 45) (v := ?_) (a' := ?_) #[true, false, false, false, false, true, false, false, false, false, true, false, false, false, false, true, false, false, false, false, false, false, false, false, false, false, false, false] rfl rfl (any_of HT_.out (by kernel_rfl)) (fun _ _ _ h => h) (Or.inl ⟨by rfl, ?_⟩) ?_ ?_
          rotate_left
          ·intro w'
           go_simp
           with_reducible rfl
          rotate_left
          ·simp only [Act.put, List.setIfInBounds_toArray, List.set_cons_zero, List.set_cons_succ, i64_w, i32_w]
           rfl
          refine pure_ (i := 20) (N := some 50) (v := ?_) (a' := ?_) #[true, false, false, false, false, true, false, false, false, false, true, false, false, false, false, true, false, false, false, false, true, false, false, false, false, false, false, false] rfl rfl (any_of HT_.out (by kernel_rfl)) (fun _ _ _ h => h) (Or.inl ⟨by rfl, ?_⟩) ?_ ?_
          rotate_left
          ·intro w'
           go_simp
           with_reducible rfl
          rotate_left
          ·simp only [Act.put, List.setIfInBounds_toArray, List.set_cons_zero, List.set_cons_succ, i64_w, i32_w]
           rfl
          refine take_ (i := 1) (N := some 31) (v := ?_) (a' := ?_) #[true, true, false, false, false, true, false, false, false, false, true, false, false, false, false, true, false, false, false, false, true, false, false, false, false, false, false, false] rfl rfl (take_ofW HT_.out HW_.out (by kernel_rfl)) (fun _ _ _ h => h) (Or.inl ⟨by rfl, ?_⟩) hHeld ?_ ?_
          rotate_left
          ·rintro w' ⟨s0, s1, s2, s3, s4, s5, s6, s7, s8, s9, s10, s11, s12, s13, s14, s15, s16, s17, s18, s19, s20, s21, s22, s23⟩
           go_simp
           with_reducible rfl
          rotate_left
          ·simp only [Act.put, List.setIfInBounds_toArray, List.set_cons_zero, List.set_cons_succ, i64_w, i32_w]
           rfl
          refine pure_ (i := 2) (N := some 32) (v := ?_) (a' := ?_) #[true, true, true, false, false, true, false, false, false, false, true, false, false, false, false, true, false, false, false, false, true, false, false, false, false, false, false, false] rfl rfl (any_of HT_.out (by kernel_rfl)) (fun _ _ _ h => h) (Or.inl ⟨by rfl, ?_⟩) ?_ ?_
          rotate_left
          ·intro w'
           go_simp
           with_reducible rfl
          rotate_left
          ·simp only [Act.put, List.setIfInBounds_toArray, List.set_cons_zero, List.set_cons_succ, i64_w, i32_w]
           rfl
          refine pure_ (i := 3) (N := some 33) (v := ?_) (a' := ?_) #[true, true, true, true, false, true, false, false, false, false, true, false, false, false, false, true, false, false, false, false, true, false, false, false, false, false, false, false] rfl rfl (any_of HT_.out (by kernel_rfl)) (fun _ _ _ h => h) (Or.inl ⟨by rfl, ?_⟩) ?_ ?_
          rotate_left
          ·intro w'
           go_simp
           with_reducible rfl
          rotate_left
          ·simp only [Act.put, List.setIfInBounds_toArray, List.set_cons_zero, List.set_cons_succ, i64_w, i32_w]
           rfl
          refine take_ (i := 4) (N := some 34) (v := ?_) (a' := ?_) #[true, true, true, true, true, true, false, false, false, false, true, false, false, false, false, true, false, false, false, false, true, false, false, false, false, false, false, false] rfl rfl (take_ofW HT_.out HW_.out (by kernel_rfl)) (fun _ _ _ h => h) (Or.inl ⟨by rfl, ?_⟩) hHeld ?_ ?_
          rotate_left
          ·rintro w' ⟨s0, s1, s2, s3, s4, s5, s6, s7, s8, s9, s10, s11, s12, s13, s14, s15, s16, s17, s18, s19, s20, s21, s22, s23⟩
           go_simp
           with_reducible rfl
          rotate_left
          ·simp only [Act.put, List.setIfInBounds_toArray, List.set_cons_zero, List.set_cons_succ, i64_w, i32_w]
           rfl
          refine take_ (i := 6) (N := some 36) (v := ?_) (a' := ?_) #[true, true, true, true, true, true, true, false, false, false, true, false, false, false, false, true, false, false, false, false, true, false, false, false, false, false, false, false] rfl rfl (take_ofW HT_.out HW_.out (by kernel_rfl)) (fun _ _ _ h => h) (Or.inl ⟨by rfl, ?_⟩) hHeld ?_ ?_
          rotate_left
          ·rintro w' ⟨s0, s1, s2, s3, s4, s5, s6, s7, s8, s9, s10, s11, s12, s13, s14, s15, s16, s17, s18, s19, s20, s21, s22, s23⟩
           go_simp
           with_reducible rfl
          rotate_left
          ·simp only [Act.put, List.setIfInBounds_toArray, List.set_cons_zero, List.set_cons_succ, i64_w, i32_w]
           rfl
          refine pure_ (i := 7) (N := some 37) (v := ?_) (a' := ?_) #[true, true, true, true, true, true, true, true, false, false, true, false, false, false, false, true, false, false, false, false, true, false, false, false, false, false, false, false] rfl rfl (any_of HT_.out (by kernel_rfl)) (fun _ _ _ h => h) (Or.inl ⟨by rfl, ?_⟩) ?_ ?_
          rotate_left
          ·intro w'
           go_simp
           with_reducible rfl
          rotate_left
          ·simp only [Act.put, List.setIfInBounds_toArray, List.set_cons_zero, List.set_cons_succ, i64_w, i32_w]
           rfl
          refine pure_ (i := 8) (N := some 38) (v := ?_) (a' := ?_) #[true, true, true, true, true, true, true, true, true, false, true, false, false, false, false, true, false, false, false, false, true, false, false, false, false, false, false, false] rfl rfl (any_of HT_.out (by kernel_rfl)) (fun _ _ _ h => h) (Or.inl ⟨by rfl, ?_⟩) ?_ ?_
          rotate_left
          ·intro w'
           go_simp
           with_reducible rfl
          rotate_left
          ·simp only [Act.put, List.setIfInBounds_toArray, List.set_cons_zero, List.set_cons_succ, i64_w, i32_w]
           rfl
          refine take_ (i := 9) (N := some 39) (v := ?_) (a' := ?_) #[true, true, true, true, true, true, true, true, true, true, true, false, false, false, false, true, false, false, false, false, true, false, false, false, false, false, false, false] rfl rfl (take_ofW HT_.out HW_.out (by kernel_rfl)) (fun _ _ _ h => h) (Or.inl ⟨by rfl, ?_⟩) hHeld ?_ ?_
          rotate_left
          ·rintro w' ⟨s0, s1, s2, s3, s4, s5, s6, s7, s8, s9, s10, s11, s12, s13, s14, s15, s16, s17, s18, s19, s20, s21, s22, s23⟩
           go_simp
           with_reducible rfl
          rotate_left
          ·simp only [Act.put, List.setIfInBounds_toArray, List.set_cons_zero, List.set_cons_succ, i64_w, i32_w]
           rfl
          refine take_ (i := 11) (N := some 41) (v := ?_) (a' := ?_) #[true, true, true, true, true, true, true, true, true, true, true, true, false, false, false, true, false, false, false, false, true, false, false, false, false, false, false, false] rfl rfl (take_ofW HT_.out HW_.out (by kernel_rfl)) (fun _ _ _ h => h) (Or.inl ⟨by rfl, ?_⟩) hHeld ?_ ?_
          rotate_left
          ·rintro w' ⟨s0, s1, s2, s3, s4, s5, s6, s7, s8, s9, s10, s11, s12, s13, s14, s15, s16, s17, s18, s19, s20, s21, s22, s23⟩
           go_simp
           with_reducible rfl
          rotate_left
          ·simp only [Act.put, List.setIfInBounds_toArray, List.set_cons_zero, List.set_cons_succ, i64_w, i32_w]
           rfl
          refine pure_ (i := 12) (N := some 42) (v := ?_) (a' := ?_) #[true, true, true, true, true, true, true, true, true, true, true, true, true, false, false, true, false, false, false, false, true, false, false, false, false, false, false, false] rfl rfl (any_of HT_.out (by kernel_rfl)) (fun _ _ _ h => h) (Or.inl ⟨by rfl, ?_⟩) ?_ ?_
          rotate_left
          ·intro w'
           go_simp
           with_reducible rfl
          rotate_left
          ·simp only [Act.put, List.setIfInBounds_toArray, List.set_cons_zero, List.set_cons_succ, i64_w, i32_w]
           rfl
          refine pure_ (i := 13) (N := some 43) (v := ?_) (a' := ?_) #[true, true, true, true, true, true, true, true, true, true, true, true, true, true, false, true, false, false, false, false, true, false, false, false, false, false, false, false] rfl rfl (any_of HT_.out (by kernel_rfl)) (fun _ _ _ h => h) (Or.inl ⟨by rfl, ?_⟩) ?_ ?_
          rotate_left
          ·intro w'
           go_simp
           with_reducible rfl
          rotate_left
          ·simp only [Act.put, List.setIfInBounds_toArray, List.set_cons_zero, List.set_cons_succ, i64_w, i32_w]
           rfl
          refine take_ (i := 14) (N := some 44) (v := ?_) (a' := ?_) #[true, true, true, true, true, true, true, true, true, true, true, true, true, true, true, true, false, false, false, false, true, false, false, false, false, false, false, false] rfl rfl (take_ofW HT_.out HW_.out (by kernel_rfl)) (fun _ _ _ h => h) (Or.inl ⟨by rfl, ?_⟩) hHeld ?_ ?_
          rotate_left
          ·rintro w' ⟨s0, s1, s2, s3, s4, s5, s6, s7, s8, s9, s10, s11, s12, s13, s14, s15, s16, s17, s18, s19, s20, s21, s22, s23⟩
           go_simp
           with_reducible rfl
          rotate_left
          ·simp only [Act.put, List.setIfInBounds_toArray, List.set_cons_zero, List.set_cons_succ, i64_w, i32_w]
           rfl
          refine take_ (i := 16) (N := some 46) (v := ?_) (a' := ?_) #[true, true, true, true, true, true, true, true, true, true, true, true, true, true, true, true, true, false, false, false, true, false, false, false, false, false, false, false] rfl rfl (take_ofW HT_.out HW_.out (by kernel_rfl)) (fun _ _ _ h => h) (Or.inl ⟨by rfl, ?_⟩) hHeld ?_ ?_
          rotate_left
          ·rintro w' ⟨s0, s1, s2, s3, s4, s5, s6, s7, s8, s9, s10, s11, s12, s13, s14, s15, s16, s17, s18, s19, s20, s21, s22, s23⟩
           go_simp
           with_reducible rfl
          rotate_left
          ·simp only [Act.put, List.setIfInBounds_toArray, List.set_cons_zero, List.set_cons_succ, i64_w, i32_w]
           rfl
          refine pure_ (i := 17) (N := some 47) (v := ?_) (a' := ?_) #[true, true, true, true, true, true, true, true, true, true, true, true, true, true, true, true, true, true, false, false, true, false, false, false, false, false, false, false] rfl rfl (any_of HT_.out (by kernel_rfl)) (fun _ _ _ h => h) (Or.inl ⟨by rfl, ?_⟩) ?_ ?_
          rotate_left
          ·intro w'
           go_simp
           with_reducible rfl
          rotate_left
          ·simp only [Act.put, List.setIfInBounds_toArray, List.set_cons_zero, List.set_cons_succ, i64_w, i32_w]
           rfl
          refine pure_ (i := 18) (N := some 48) (v := ?_) (a' := ?_) #[true, true, true, true, true, true, true, true, true, true, true, true, true, true, true, true, true, true, true, false, true, false, false, false, false, false, false, false] rfl rfl (any_of HT_.out (by kernel_rfl)) (fun _ _ _ h => h) (Or.inl ⟨by rfl, ?_⟩) ?_ ?_
          rotate_left
          ·intro w'
           go_simp
           with_reducible rfl
          rotate_left
          ·simp only [Act.put, List.setIfInBounds_toArray, List.set_cons_zero, List.set_cons_succ, i64_w, i32_w]
           rfl
          refine take_ (i := 19) (N := some 49) (v := ?_) (a' := ?_) #[true, true, true, true, true, true, true, true, true, true, true, true, true, true, true, true, true, true, true, true, true, false, false, false, false, false, false, false] rfl rfl (take_ofW HT_.out HW_.out (by kernel_rfl)) (fun _ _ _ h => h) (Or.inl ⟨by rfl, ?_⟩) hHeld ?_ ?_
          rotate_left
          ·rintro w' ⟨s0, s1, s2, s3, s4, s5, s6, s7, s8, s9, s10, s11, s12, s13, s14, s15, s16, s17, s18, s19, s20, s21, s22, s23⟩
           go_simp
           with_reducible rfl
          rotate_left
          ·simp only [Act.put, List.setIfInBounds_toArray, List.set_cons_zero, List.set_cons_succ, i64_w, i32_w]
           rfl
          refine take_ (i := 21) (N := some 51) (v := ?_) (a' := ?_) #[true, true, true, true, true, true, true, true, true, true, true, true, true, true, true, true, true, true, true, true, true, true, false, false, false, false, false, false] rfl rfl (take_ofW HT_.out HW_.out (by kernel_rfl)) (fun _ _ _ h => h) (Or.inl ⟨by rfl, ?_⟩) hHeld ?_ ?_
          rotate_left
          ·rintro w' ⟨s0, s1, s2, s3, s4, s5, s6, s7, s8, s9, s10, s11, s12, s13, s14, s15, s16, s17, s18, s19, s20, s21, s22, s23⟩
           go_simp
           with_reducible rfl
          rotate_left
          ·simp only [Act.put, List.setIfInBounds_toArray, List.set_cons_zero, List.set_cons_succ, i64_w, i32_w]
           rfl
          refine pure_ (i := 22) (N := some 52) (v := ?_) (a' := ?_) #[true, true, true, true, true, true, true, true, true, true, true, true, true, true, true, true, true, true, true, true, true, true, true, false, false, false, false, false] rfl rfl (any_of HT_.out (by kernel_rfl)) (fun _ _ _ h => h) (Or.inl ⟨by rfl, ?_⟩) ?_ ?_
          rotate_left
          ·intro w'
           go_simp
           with_reducible rfl
          rotate_left
          ·simp only [Act.put, List.setIfInBounds_toArray, List.set_cons_zero, List.set_cons_succ, i64_w, i32_w]
           rfl
          refine pure_ (i := 23) (N := some 53) (v := ?_) (a' := ?_) #[true, true, true, true, true, true, true, true, true, true, true, true, true, true, true, true, true, true, true, true, true, true, true, true, false, false, false, false] rfl rfl (any_of HT_.out (by kernel_rfl)) (fun _ _ _ h => h) (Or.inl ⟨by rfl, ?_⟩) ?_ ?_
          rotate_left
          ·intro w'
           go_simp
           with_reducible rfl
          rotate_left
          ·simp only [Act.put, List.setIfInBounds_toArray, List.set_cons_zero, List.set_cons_succ, i64_w, i32_w]
           rfl
          refine take_ (i := 24) (N := some 54) (v := ?_) (a' := ?_) #[true, true, true, true, true, true, true, true, true, true, true, true, true, true, true, true, true, true, true, true, true, true, true, true, true, false, false, false] rfl rfl (take_ofW HT_.out HW_.out (by kernel_rfl)) (fun _ _ _ h => h) (Or.inl ⟨by rfl, ?_⟩) hHeld ?_ ?_
          rotate_left
          ·rintro w' ⟨s0, s1, s2, s3, s4, s5, s6, s7, s8, s9, s10, s11, s12, s13, s14, s15, s16, s17, s18, s19, s20, s21, s22, s23⟩
           go_simp
           with_reducible rfl
          rotate_left
          ·simp only [Act.put, List.setIfInBounds_toArray, List.set_cons_zero, List.set_cons_succ, i64_w, i32_w]
           rfl
          refine pure_ (i := 25) (N := some 55) (v := ?_) (a' := ?_) #[true, true, true, true, true, true, true, true, true, true, true, true, true, true, true, true, true, true, true, true, true, true, true, true, true, true, false, false] rfl rfl (any_of HT_.out (by kernel_rfl)) (fun _ _ _ h => h) (Or.inl ⟨by rfl, ?_⟩) ?_ ?_
          rotate_left
          ·intro w'
           go_simp
           with_reducible rfl
          rotate_left
          ·simp only [Act.put, List.setIfInBounds_toArray, List.set_cons_zero, List.set_cons_succ, i64_w, i32_w]
           rfl
          refine one_ (i := 26) (N := some 4) #[true, true, true, true, true, true, true, true, true, true, true, true, true, true, true, true, true, true, true, true, true, true, true, true, true, true, true, false] rfl rfl (one_of HT_.out (by kernel_rfl)) (by decide) (fun K hK => ?_)
          refine box_step ?hg (N := 4) ?hd (cs := #[.string (⟨#[]⟩ : ByteArray), .slice none 0 0, .int .i64 0, .int .i64 0, .int .i64 0, .string (⟨#[]⟩ : ByteArray)]) (t := 48) ?hr ?_; (case hd => rfl); (case hg => rfl); (case hr => first | (go_simp; done) | (go_simp; rfl))
          intro gb280 hg w42 hbox hb
          have n0_ := Aside0.mk (blk_below (rb BK265.out) hb)
          have n1_ := Aside0.mk (blk_below (g := gb266) (o := .cells #[.string (⟨#[]⟩ : ByteArray), .slice none 0 0, .int .i64 0, .int .i64 0, .int .i64 0, .string (⟨#[]⟩ : ByteArray)] 48 (0, 0)) (rb BK266.out) hb)
          have n2_ := Aside0.mk (below_step bb hb)
          have n3_ := Aside0.mk (hbox)
          have n4_ := Aside0.mk ((by rw [hg]; exact (below_size bb) : w.heap.size ≤ gb280))
          have n5_ := Aside0.mk ((by rw [hg]; exact (below_size bb) : w.heap.size ≤ gb280))
          have n6_ := Aside0.mk ((by rw [hg]; exact Nat.ne_of_lt (blk_lt (rb BK265.out)) : gb265 ≠ gb280))
          have n7_ := Aside0.mk ((by rw [hg]; exact Nat.ne_of_gt (blk_lt (rb BK265.out)) : gb280 ≠ gb265))
          have n8_ := Aside0.mk ((by rw [hg]; exact Nat.ne_of_lt (blk_lt (g := gb266) (o := .cells #[.string (⟨#[]⟩ : ByteArray), .slice none 0 0, .int .i64 0, .int .i64 0, .int .i64 0, .string (⟨#[]⟩ : ByteArray)] 48 (0, 0)) (rb BK266.out)) : gb266 ≠ gb280))
          have n9_ := Aside0.mk ((by rw [hg]; exact Nat.ne_of_gt (blk_lt (g := gb266) (o := .cells #[.string (⟨#[]⟩ : ByteArray), .slice none 0 0, .int .i64 0, .int .i64 0, .int .i64 0, .string (⟨#[]⟩ : ByteArray)] 48 (0, 0)) (rb BK266.out)) : gb280 ≠ gb266))
          clear BK265
          clear BK266
          clear HB
          have BK265 := n0_
          have BK266 := n1_
          have HB := n2_
          have BK280 := n3_
          have GW280 := n4_
          have GE280 := n5_
          have NB265_280 := n6_
          have NB280_265 := n7_
          have NB266_280 := n8_
          have NB280_266 := n9_
          clear n0_ n1_ n2_ n3_ n4_ n5_ n6_ n7_ n8_ n9_
          clear hb hbox hg
          refine hK.out _ _ ⟨(blk_cell BK265.out 0).trans rfl, (blk_cell BK265.out 1).trans rfl, (blk_cell BK265.out 2).trans rfl, (blk_cell BK265.out 3).trans rfl, ((HB.out.cell (World.block_lt_of_cell? w _ hw275_0)).trans hw275_0), ((HB.out.cell (World.block_lt_of_cell? w _ hw275_1)).trans hw275_1), ((HB.out.cell (World.block_lt_of_cell? w _ hw275_2)).trans hw275_2), ((HB.out.cell (World.block_lt_of_cell? w _ hw275_3)).trans hw275_3), ((HB.out.cell (World.block_lt_of_cell? w _ hw276_0)).trans hw276_0), ((HB.out.cell (World.block_lt_of_cell? w _ hw276_1)).trans hw276_1), ((HB.out.cell (World.block_lt_of_cell? w _ hw276_2)).trans hw276_2), ((HB.out.cell (World.block_lt_of_cell? w _ hw276_3)).trans hw276_3), ((HB.out.cell (World.block_lt_of_cell? w _ hw277_0)).trans hw277_0), ((HB.out.cell (World.block_lt_of_cell? w _ hw277_1)).trans hw277_1), ((HB.out.cell (World.block_lt_of_cell? w _ hw277_2)).trans hw277_2), ((HB.out.cell (World.block_lt_of_cell? w _ hw277_3)).trans hw277_3), ((HB.out.cell (World.block_lt_of_cell? w _ hw278_0)).trans hw278_0), ((HB.out.cell (World.block_lt_of_cell? w _ hw278_1)).trans hw278_1), ((HB.out.cell (World.block_lt_of_cell? w _ hw278_2)).trans hw278_2), ((HB.out.cell (World.block_lt_of_cell? w _ hw278_3)).trans hw278_3), ((HB.out.cell (World.block_lt_of_cell? w _ hw279_0)).trans hw279_0), ((HB.out.cell (World.block_lt_of_cell? w _ hw279_1)).trans hw279_1), ((HB.out.cell (World.block_lt_of_cell? w _ hw279_2)).trans hw279_2), ((HB.out.cell (World.block_lt_of_cell? w _ hw279_3)).trans hw279_3)⟩ (fun hHeld => ?_)
          clear hK K
          refine norm_ (a' := ?_) ?_ ?_
          rotate_left
          ·show Act.put _ (some 4) _ = _
           simp only [Act.put, List.setIfInBounds_toArray, List.set_cons_zero, List.set_cons_succ, i64_w, i32_w]
           rfl
          refine one_ (i := 27) (N := none) #[true, true, true, true, true, true, true, true, true, true, true, true, true, true, true, true, true, true, true, true, true, true, true, true, true, true, true, true] rfl rfl (one_of HT_.out (by kernel_rfl)) (by decide) (fun K hK => ?_)
          have hs43 : w42.cell? ⟨gb280, 0, none⟩ = some (.string (⟨#[]⟩ : ByteArray)) := (blk_cell BK280.out 0).trans rfl
          have hfs43 := blk_frozen BK280.out 0
          have hns43_0 := NB265_280.out
          have hns43_1 := NB266_280.out
          have hms43_0 := NB280_265.out
          have hms43_1 := NB280_266.out
          have hs44 : w42.cell? ⟨gb280, 1, none⟩ = some (.slice none 0 0) := (blk_cell BK280.out 1).trans rfl
          have hfs44 := blk_frozen BK280.out 1
          have hns44_0 := NB265_280.out
          have hns44_1 := NB266_280.out
          have hms44_0 := NB280_265.out
          have hms44_1 := NB280_266.out
          have hs45 : w42.cell? ⟨gb280, 2, none⟩ = some (.int .i64 0) := (blk_cell BK280.out 2).trans rfl
          have hfs45 := blk_frozen BK280.out 2
          have hns45_0 := NB265_280.out
          have hns45_1 := NB266_280.out
          have hms45_0 := NB280_265.out
          have hms45_1 := NB280_266.out
          have hs46 : w42.cell? ⟨gb280, 3, none⟩ = some (.int .i64 0) := (blk_cell BK280.out 3).trans rfl
          have hfs46 := blk_frozen BK280.out 3
          have hns46_0 := NB265_280.out
          have hns46_1 := NB266_280.out
          have hms46_0 := NB280_265.out
          have hms46_1 := NB280_266.out
          have hs47 : w42.cell? ⟨gb280, 4, none⟩ = some (.int .i64 0) := (blk_cell BK280.out 4).trans rfl
          have hfs47 := blk_frozen BK280.out 4
          have hns47_0 := NB265_280.out
          have hns47_1 := NB266_280.out
          have hms47_0 := NB280_265.out
          have hms47_1 := NB280_266.out
          have hs48 : w42.cell? ⟨gb280, 5, none⟩ = some (.string (⟨#[]⟩ : ByteArray)) := (blk_cell BK280.out 5).trans rfl
          have hfs48 := blk_frozen BK280.out 5
          have hns48_0 := NB265_280.out
          have hns48_1 := NB266_280.out
          have hms48_0 := NB280_265.out
          have hms48_1 := NB280_266.out
          refine skip_ (w1 := ?_) (by rfl) rfl ?_ ?_
          rotate_left
          ·go_simp
           rfl
          refine hK.out _ _ ⟨((cell_far (p := ⟨gb280, _, none⟩) NB265_280.out _).trans (((cell_far (p := ⟨gb280, _, none⟩) NB265_280.out _).trans (((cell_far (p := ⟨gb280, _, none⟩) NB265_280.out _).trans (((cell_far (p := ⟨gb280, _, none⟩) NB265_280.out _).trans (((cell_far (p := ⟨gb280, _, none⟩) NB265_280.out _).trans (((cell_far (p := ⟨gb280, _, none⟩) NB265_280.out _).trans (hHeld.1)))))))))))), ((cell_far (p := ⟨gb280, _, none⟩) NB265_280.out _).trans (((cell_far (p := ⟨gb280, _, none⟩) NB265_280.out _).trans (((cell_far (p := ⟨gb280, _, none⟩) NB265_280.out _).trans (((cell_far (p := ⟨gb280, _, none⟩) NB265_280.out _).trans (((cell_far (p := ⟨gb280, _, none⟩) NB265_280.out _).trans (((cell_far (p := ⟨gb280, _, none⟩) NB265_280.out _).trans (hHeld.2.1)))))))))))), ((cell_far (p := ⟨gb280, _, none⟩) NB265_280.out _).trans (((cell_far (p := ⟨gb280, _, none⟩) NB265_280.out _).trans (((cell_far (p := ⟨gb280, _, none⟩) NB265_280.out _).trans (((cell_far (p := ⟨gb280, _, none⟩) NB265_280.out _).trans (((cell_far (p := ⟨gb280, _, none⟩) NB265_280.out _).trans (((cell_far (p := ⟨gb280, _, none⟩) NB265_280.out _).trans (hHeld.2.2.1)))))))))))), ((cell_far (p := ⟨gb280, _, none⟩) NB265_280.out _).trans (((cell_far (p := ⟨gb280, _, none⟩) NB265_280.out _).trans (((cell_far (p := ⟨gb280, _, none⟩) NB265_280.out _).trans (((cell_far (p := ⟨gb280, _, none⟩) NB265_280.out _).trans (((cell_far (p := ⟨gb280, _, none⟩) NB265_280.out _).trans (((cell_far (p := ⟨gb280, _, none⟩) NB265_280.out _).trans (hHeld.2.2.2.1)))))))))))), ((cell_far (p := ⟨gb280, _, none⟩) (by first | exact Nat.ne_of_lt (Nat.lt_of_lt_of_le (by have := World.block_lt_of_cell? _ _ hw275_0; first | rwa [add_block] at this | exact this) GW280.out) | (rw [add_block]; exact Nat.ne_of_lt (Nat.lt_of_lt_of_le (by have := World.block_lt_of_cell? _ _ hw275_0; first | rwa [add_block] at this | exact this) GW280.out)) | (show (Addr.add _ _).block ≠ _; rw [add_block]; exact Nat.ne_of_lt (Nat.lt_of_lt_of_le (by have := World.block_lt_of_cell? _ _ hw275_0; first | rwa [add_block] at this | exact this) GW280.out)) | (dsimp only; exact Nat.ne_of_lt (Nat.lt_of_lt_of_le (by have := World.block_lt_of_cell? _ _ hw275_0; first | rwa [add_block] at this | exact this) GW280.out))) _).trans (((cell_far (p := ⟨gb280, _, none⟩) (by first | exact Nat.ne_of_lt (Nat.lt_of_lt_of_le (by have := World.block_lt_of_cell? _ _ hw275_0; first | rwa [add_block] at this | exact this) GW280.out) | (rw [add_block]; exact Nat.ne_of_lt (Nat.lt_of_lt_of_le (by have := World.block_lt_of_cell? _ _ hw275_0; first | rwa [add_block] at this | exact this) GW280.out)) | (show (Addr.add _ _).block ≠ _; rw [add_block]; exact Nat.ne_of_lt (Nat.lt_of_lt_of_le (by have := World.block_lt_of_cell? _ _ hw275_0; first | rwa [add_block] at this | exact this) GW280.out)) | (dsimp only; exact Nat.ne_of_lt (Nat.lt_of_lt_of_le (by have := World.block_lt_of_cell? _ _ hw275_0; first | rwa [add_block] at this | exact this) GW280.out))) _).trans (((cell_far (p := ⟨gb280, _, none⟩) (by first | exact Nat.ne_of_lt (Nat.lt_of_lt_of_le (by have := World.block_lt_of_cell? _ _ hw275_0; first | rwa [add_block] at this | exact this) GW280.out) | (rw [add_block]; exact Nat.ne_of_lt (Nat.lt_of_lt_of_le (by have := World.block_lt_of_cell? _ _ hw275_0; first | rwa [add_block] at this | exact this) GW280.out)) | (show (Addr.add _ _).block ≠ _; rw [add_block]; exact Nat.ne_of_lt (Nat.lt_of_lt_of_le (by have := World.block_lt_of_cell? _ _ hw275_0; first | rwa [add_block] at this | exact this) GW280.out)) | (dsimp only; exact Nat.ne_of_lt (Nat.lt_of_lt_of_le (by have := World.block_lt_of_cell? _ _ hw275_0; first | rwa [add_block] at this | exact this) GW280.out))) _).trans (((cell_far (p := ⟨gb280, _, none⟩) (by first | exact Nat.ne_of_lt (Nat.lt_of_lt_of_le (by have := World.block_lt_of_cell? _ _ hw275_0; first | rwa [add_block] at this | exact this) GW280.out) | (rw [add_block]; exact Nat.ne_of_lt (Nat.lt_of_lt_of_le (by have := World.block_lt_of_cell? _ _ hw275_0; first | rwa [add_block] at this | exact this) GW280.out)) | (show (Addr.add _ _).block ≠ _; rw [add_block]; exact Nat.ne_of_lt (Nat.lt_of_lt_of_le (by have := World.block_lt_of_cell? _ _ hw275_0; first | rwa [add_block] at this | exact this) GW280.out)) | (dsimp only; exact Nat.ne_of_lt (Nat.lt_of_lt_of_le (by have := World.block_lt_of_cell? _ _ hw275_0; first | rwa [add_block] at this | exact this) GW280.out))) _).trans (((cell_far (p := ⟨gb280, _, none⟩) (by first | exact Nat.ne_of_lt (Nat.lt_of_lt_of_le (by have := World.block_lt_of_cell? _ _ hw275_0; first | rwa [add_block] at this | exact this) GW280.out) | (rw [add_block]; exact Nat.ne_of_lt (Nat.lt_of_lt_of_le (by have := World.block_lt_of_cell? _ _ hw275_0; first | rwa [add_block] at this | exact this) GW280.out)) | (show (Addr.add _ _).block ≠ _; rw [add_block]; exact Nat.ne_of_lt (Nat.lt_of_lt_of_le (by have := World.block_lt_of_cell? _ _ hw275_0; first | rwa [add_block] at this | exact this) GW280.out)) | (dsimp only; exact Nat.ne_of_lt (Nat.lt_of_lt_of_le (by have := World.block_lt_of_cell? _ _ hw275_0; first | rwa [add_block] at this | exact this) GW280.out))) _).trans (((cell_far (p := ⟨gb280, _, none⟩) (by first | exact Nat.ne_of_lt (Nat.lt_of_lt_of_le (by have := World.block_lt_of_cell? _ _ hw275_0; first | rwa [add_block] at this | exact this) GW280.out) | (rw [add_block]; exact Nat.ne_of_lt (Nat.lt_of_lt_of_le (by have := World.block_lt_of_cell? _ _ hw275_0; first | rwa [add_block] at this | exact this) GW280.out)) | (show (Addr.add _ _).block ≠ _; rw [add_block]; exact Nat.ne_of_lt (Nat.lt_of_lt_of_le (by have := World.block_lt_of_cell? _ _ hw275_0; first | rwa [add_block] at this | exact this) GW280.out)) | (dsimp only; exact Nat.ne_of_lt (Nat.lt_of_lt_of_le (by have := World.block_lt_of_cell? _ _ hw275_0; first | rwa [add_block] at this | exact this) GW280.out))) _).trans (hHeld.2.2.2.2.1)))))))))))), ((cell_far (p := ⟨gb280, _, none⟩) (by first | exact Nat.ne_of_lt (Nat.lt_of_lt_of_le (by have := World.block_lt_of_cell? _ _ hw275_1; first | rwa [add_block] at this | exact this) GW280.out) | (rw [add_block]; exact Nat.ne_of_lt (Nat.lt_of_lt_of_le (by have := World.block_lt_of_cell? _ _ hw275_1; first | rwa [add_block] at this | exact this) GW280.out)) | (show (Addr.add _ _).block ≠ _; rw [add_block]; exact Nat.ne_of_lt (Nat.lt_of_lt_of_le (by have := World.block_lt_of_cell? _ _ hw275_1; first | rwa [add_block] at this | exact this) GW280.out)) | (dsimp only; exact Nat.ne_of_lt (Nat.lt_of_lt_of_le (by have := World.block_lt_of_cell? _ _ hw275_1; first | rwa [add_block] at this | exact this) GW280.out))) _).trans (((cell_far (p := ⟨gb280, _, none⟩) (by first | exact Nat.ne_of_lt (Nat.lt_of_lt_of_le (by have := World.block_lt_of_cell? _ _ hw275_1; first | rwa [add_block] at this | exact this) GW280.out) | (rw [add_block]; exact Nat.ne_of_lt (Nat.lt_of_lt_of_le (by have := World.block_lt_of_cell? _ _ hw275_1; first | rwa [add_block] at this | exact this) GW280.out)) | (show (Addr.add _ _).block ≠ _; rw [add_block]; exact Nat.ne_of_lt (Nat.lt_of_lt_of_le (by have := World.block_lt_of_cell? _ _ hw275_1; first | rwa [add_block] at this | exact this) GW280.out)) | (dsimp only; exact Nat.ne_of_lt (Nat.lt_of_lt_of_le (by have := World.block_lt_of_cell? _ _ hw275_1; first | rwa [add_block] at this | exact this) GW280.out))) _).trans (((cell_far (p := ⟨gb280, _, none⟩) (by first | exact Nat.ne_of_lt (Nat.lt_of_lt_of_le (by have := World.block_lt_of_cell? _ _ hw275_1; first | rwa [add_block] at this | exact this) GW280.out) | (rw [add_block]; exact Nat.ne_of_lt (Nat.lt_of_lt_of_le (by have := World.block_lt_of_cell? _ _ hw275_1; first | rwa [add_block] at this | exact this) GW280.out)) | (show (Addr.add _ _).block ≠ _; rw [add_block]; exact Nat.ne_of_lt (Nat.lt_of_lt_of_le (by have := World.block_lt_of_cell? _ _ hw275_1; first | rwa [add_block] at this | exact this) GW280.out)) | (dsimp only; exact Nat.ne_of_lt (Nat.lt_of_lt_of_le (by have := World.block_lt_of_cell? _ _ hw275_1; first | rwa [add_block] at this | exact this) GW280.out))) _).trans (((cell_far (p := ⟨gb280, _, none⟩) (by first | exact Nat.ne_of_lt (Nat.lt_of_lt_of_le (by have := World.block_lt_of_cell? _ _ hw275_1; first | rwa [add_block] at this | exact this) GW280.out) | (rw [add_block]; exact Nat.ne_of_lt (Nat.lt_of_lt_of_le (by have := World.block_lt_of_cell? _ _ hw275_1; first | rwa [add_block] at this | exact this) GW280.out)) | (show (Addr.add _ _).block ≠ _; rw [add_block]; exact Nat.ne_of_lt (Nat.lt_of_lt_of_le (by have := World.block_lt_of_cell? _ _ hw275_1; first | rwa [add_block] at this | exact this) GW280.out)) | (dsimp only; exact Nat.ne_of_lt (Nat.lt_of_lt_of_le (by have := World.block_lt_of_cell? _ _ hw275_1; first | rwa [add_block] at this | exact this) GW280.out))) _).trans (((cell_far (p := ⟨gb280, _, none⟩) (by first | exact Nat.ne_of_lt (Nat.lt_of_lt_of_le (by have := World.block_lt_of_cell? _ _ hw275_1; first | rwa [add_block] at this | exact this) GW280.out) | (rw [add_block]; exact Nat.ne_of_lt (Nat.lt_of_lt_of_le (by have := World.block_lt_of_cell? _ _ hw275_1; first | rwa [add_block] at this | exact this) GW280.out)) | (show (Addr.add _ _).block ≠ _; rw [add_block]; exact Nat.ne_of_lt (Nat.lt_of_lt_of_le (by have := World.block_lt_of_cell? _ _ hw275_1; first | rwa [add_block] at this | exact this) GW280.out)) | (dsimp only; exact Nat.ne_of_lt (Nat.lt_of_lt_of_le (by have := World.block_lt_of_cell? _ _ hw275_1; first | rwa [add_block] at this | exact this) GW280.out))) _).trans (((cell_far (p := ⟨gb280, _, none⟩) (by first | exact Nat.ne_of_lt (Nat.lt_of_lt_of_le (by have := World.block_lt_of_cell? _ _ hw275_1; first | rwa [add_block] at this | exact this) GW280.out) | (rw [add_block]; exact Nat.ne_of_lt (Nat.lt_of_lt_of_le (by have := World.block_lt_of_cell? _ _ hw275_1; first | rwa [add_block] at this | exact this) GW280.out)) | (show (Addr.add _ _).block ≠ _; rw [add_block]; exact Nat.ne_of_lt (Nat.lt_of_lt_of_le (by have := World.block_lt_of_cell? _ _ hw275_1; first | rwa [add_block] at this | exact this) GW280.out)) | (dsimp only; exact Nat.ne_of_lt (Nat.lt_of_lt_of_le (by have := World.block_lt_of_cell? _ _ hw275_1; first | rwa [add_block] at this | exact this) GW280.out))) _).trans (hHeld.2.2.2.2.2.1)))))))))))), ((cell_far (p := ⟨gb280, _, none⟩) (by first | exact Nat.ne_of_lt (Nat.lt_of_lt_of_le (by have := World.block_lt_of_cell? _ _ hw275_2; first | rwa [add_block] at this | exact this) GW280.out) | (rw [add_block]; exact Nat.ne_of_lt (Nat.lt_of_lt_of_le (by have := World.block_lt_of_cell? _ _ hw275_2; first | rwa [add_block] at this | exact this) GW280.out)) | (show (Addr.add _ _).block ≠ _; rw [add_block]; exact Nat.ne_of_lt (Nat.lt_of_lt_of_le (by have := World.block_lt_of_cell? _ _ hw275_2; first | rwa [add_block] at this | exact this) GW280.out)) | (dsimp only; exact Nat.ne_of_lt (Nat.lt_of_lt_of_le (by have := World.block_lt_of_cell? _ _ hw275_2; first | rwa [add_block] at this | exact this) GW280.out))) _).trans (((cell_far (p := ⟨gb280, _, none⟩) (by first | exact Nat.ne_of_lt (Nat.lt_of_lt_of_le (by have := World.block_lt_of_cell? _ _ hw275_2; first | rwa [add_block] at this | exact this) GW280.out) | (rw [add_block]; exact Nat.ne_of_lt (Nat.lt_of_lt_of_le (by have := World.block_lt_of_cell? _ _ hw275_2; first | rwa [add_block] at this | exact this) GW280.out)) | (show (Addr.add _ _).block ≠ _; rw [add_block]; exact Nat.ne_of_lt (Nat.lt_of_lt_of_le (by have := World.block_lt_of_cell? _ _ hw275_2; first | rwa [add_block] at this | exact this) GW280.out)) | (dsimp only; exact Nat.ne_of_lt (Nat.lt_of_lt_of_le (by have := World.block_lt_of_cell? _ _ hw275_2; first | rwa [add_block] at this | exact this) GW280.out))) _).trans (((cell_far (p := ⟨gb280, _, none⟩) (by first | exact Nat.ne_of_lt (Nat.lt_of_lt_of_le (by have := World.block_lt_of_cell? _ _ hw275_2; first | rwa [add_block] at this | exact this) GW280.out) | (rw [add_block]; exact Nat.ne_of_lt (Nat.lt_of_lt_of_le (by have := World.block_lt_of_cell? _ _ hw275_2; first | rwa [add_block] at this | exact this) GW280.out)) | (show (Addr.add _ _).block ≠ _; rw [add_block]; exact Nat.ne_of_lt (Nat.lt_of_lt_of_le (by have := World.block_lt_of_cell? _ _ hw275_2; first | rwa [add_block] at this | exact this) GW280.out)) | (dsimp only; exact Nat.ne_of_lt (Nat.lt_of_lt_of_le (by have := World.block_lt_of_cell? _ _ hw275_2; first | rwa [add_block] at this | exact this) GW280.out))) _).trans (((cell_far (p := ⟨gb280, _, none⟩) (by first | exact Nat.ne_of_lt (Nat.lt_of_lt_of_le (by have := World.block_lt_of_cell? _ _ hw275_2; first | rwa [add_block] at this | exact this) GW280.out) | (rw [add_block]; exact Nat.ne_of_lt (Nat.lt_of_lt_of_le (by have := World.block_lt_of_cell? _ _ hw275_2; first | rwa [add_block] at this | exact this) GW280.out)) | (show (Addr.add _ _).block ≠ _; rw [add_block]; exact Nat.ne_of_lt (Nat.lt_of_lt_of_le (by have := World.block_lt_of_cell? _ _ hw275_2; first | rwa [add_block] at this | exact this) GW280.out)) | (dsimp only; exact Nat.ne_of_lt (Nat.lt_of_lt_of_le (by have := World.block_lt_of_cell? _ _ hw275_2; first | rwa [add_block] at this | exact this) GW280.out))) _).trans (((cell_far (p := ⟨gb280, _, none⟩) (by first | exact Nat.ne_of_lt (Nat.lt_of_lt_of_le (by have := World.block_lt_of_cell? _ _ hw275_2; first | rwa [add_block] at this | exact this) GW280.out) | (rw [add_block]; exact Nat.ne_of_lt (Nat.lt_of_lt_of_le (by have := World.block_lt_of_cell? _ _ hw275_2; first | rwa [add_block] at this | exact this) GW280.out)) | (show (Addr.add _ _).block ≠ _; rw [add_block]; exact Nat.ne_of_lt (Nat.lt_of_lt_of_le (by have := World.block_lt_of_cell? _ _ hw275_2; first | rwa [add_block] at this | exact this) GW280.out)) | (dsimp only; exact Nat.ne_of_lt (Nat.lt_of_lt_of_le (by have := World.block_lt_of_cell? _ _ hw275_2; first | rwa [add_block] at this | exact this) GW280.out))) _).trans (((cell_far (p := ⟨gb280, _, none⟩) (by first | exact Nat.ne_of_lt (Nat.lt_of_lt_of_le (by have := World.block_lt_of_cell? _ _ hw275_2; first | rwa [add_block] at this | exact this) GW280.out) | (rw [add_block]; exact Nat.ne_of_lt (Nat.lt_of_lt_of_le (by have := World.block_lt_of_cell? _ _ hw275_2; first | rwa [add_block] at this | exact this) GW280.out)) | (show (Addr.add _ _).block ≠ _; rw [add_block]; exact Nat.ne_of_lt (Nat.lt_of_lt_of_le (by have := World.block_lt_of_cell? _ _ hw275_2; first | rwa [add_block] at this | exact this) GW280.out)) | (dsimp only; exact Nat.ne_of_lt (Nat.lt_of_lt_of_le (by have := World.block_lt_of_cell? _ _ hw275_2; first | rwa [add_block] at this | exact this) GW280.out))) _).trans (hHeld.2.2.2.2.2.2.1)))))))))))), ((cell_far (p := ⟨gb280, _, none⟩) (by first | exact Nat.ne_of_lt (Nat.lt_of_lt_of_le (by have := World.block_lt_of_cell? _ _ hw275_3; first | rwa [add_block] at this | exact this) GW280.out) | (rw [add_block]; exact Nat.ne_of_lt (Nat.lt_of_lt_of_le (by have := World.block_lt_of_cell? _ _ hw275_3; first | rwa [add_block] at this | exact this) GW280.out)) | (show (Addr.add _ _).block ≠ _; rw [add_block]; exact Nat.ne_of_lt (Nat.lt_of_lt_of_le (by have := World.block_lt_of_cell? _ _ hw275_3; first | rwa [add_block] at this | exact this) GW280.out)) | (dsimp only; exact Nat.ne_of_lt (Nat.lt_of_lt_of_le (by have := World.block_lt_of_cell? _ _ hw275_3; first | rwa [add_block] at this | exact this) GW280.out))) _).trans (((cell_far (p := ⟨gb280, _, none⟩) (by first | exact Nat.ne_of_lt (Nat.lt_of_lt_of_le (by have := World.block_lt_of_cell? _ _ hw275_3; first | rwa [add_block] at this | exact this) GW280.out) | (rw [add_block]; exact Nat.ne_of_lt (Nat.lt_of_lt_of_le (by have := World.block_lt_of_cell? _ _ hw275_3; first | rwa [add_block] at this | exact this) GW280.out)) | (show (Addr.add _ _).block ≠ _; rw [add_block]; exact Nat.ne_of_lt (Nat.lt_of_lt_of_le (by have := World.block_lt_of_cell? _ _ hw275_3; first | rwa [add_block] at this | exact this) GW280.out)) | (dsimp only; exact Nat.ne_of_lt (Nat.lt_of_lt_of_le (by have := World.block_lt_of_cell? _ _ hw275_3; first | rwa [add_block] at this | exact this) GW280.out))) _).trans (((cell_far (p := ⟨gb280, _, none⟩) (by first | exact Nat.ne_of_lt (Nat.lt_of_lt_of_le (by have := World.block_lt_of_cell? _ _ hw275_3; first | rwa [add_block] at this | exact this) GW280.out) | (rw [add_block]; exact Nat.ne_of_lt (Nat.lt_of_lt_of_le (by have := World.block_lt_of_cell? _ _ hw275_3; first | rwa [add_block] at this | exact this) GW280.out)) | (show (Addr.add _ _).block ≠ _; rw [add_block]; exact Nat.ne_of_lt (Nat.lt_of_lt_of_le (by have := World.block_lt_of_cell? _ _ hw275_3; first | rwa [add_block] at this | exact this) GW280.out)) | (dsimp only; exact Nat.ne_of_lt (Nat.lt_of_lt_of_le (by have := World.block_lt_of_cell? _ _ hw275_3; first | rwa [add_block] at this | exact this) GW280.out))) _).trans (((cell_far (p := ⟨gb280, _, none⟩) (by first | exact Nat.ne_of_lt (Nat.lt_of_lt_of_le (by have := World.block_lt_of_cell? _ _ hw275_3; first | rwa [add_block] at this | exact this) GW280.out) | (rw [add_block]; exact Nat.ne_of_lt (Nat.lt_of_lt_of_le (by have := World.block_lt_of_cell? _ _ hw275_3; first | rwa [add_block] at this | exact this) GW280.out)) | (show (Addr.add _ _).block ≠ _; rw [add_block]; exact Nat.ne_of_lt (Nat.lt_of_lt_of_le (by have := World.block_lt_of_cell? _ _ hw275_3; first | rwa [add_block] at this | exact this) GW280.out)) | (dsimp only; exact Nat.ne_of_lt (Nat.lt_of_lt_of_le (by have := World.block_lt_of_cell? _ _ hw275_3; first | rwa [add_block] at this | exact this) GW280.out))) _).trans (((cell_far (p := ⟨gb280, _, none⟩) (by first | exact Nat.ne_of_lt (Nat.lt_of_lt_of_le (by have := World.block_lt_of_cell? _ _ hw275_3; first | rwa [add_block] at this | exact this) GW280.out) | (rw [add_block]; exact Nat.ne_of_lt (Nat.lt_of_lt_of_le (by have := World.block_lt_of_cell? _ _ hw275_3; first | rwa [add_block] at this | exact this) GW280.out)) | (show (Addr.add _ _).block ≠ _; rw [add_block]; exact Nat.ne_of_lt (Nat.lt_of_lt_of_le (by have := World.block_lt_of_cell? _ _ hw275_3; first | rwa [add_block] at this | exact this) GW280.out)) | (dsimp only; exact Nat.ne_of_lt (Nat.lt_of_lt_of_le (by have := World.block_lt_of_cell? _ _ hw275_3; first | rwa [add_block] at this | exact this) GW280.out))) _).trans (((cell_far (p := ⟨gb280, _, none⟩) (by first | exact Nat.ne_of_lt (Nat.lt_of_lt_of_le (by have := World.block_lt_of_cell? _ _ hw275_3; first | rwa [add_block] at this | exact this) GW280.out) | (rw [add_block]; exact Nat.ne_of_lt (Nat.lt_of_lt_of_le (by have := World.block_lt_of_cell? _ _ hw275_3; first | rwa [add_block] at this | exact this) GW280.out)) | (show (Addr.add _ _).block ≠ _; rw [add_block]; exact Nat.ne_of_lt (Nat.lt_of_lt_of_le (by have := World.block_lt_of_cell? _ _ hw275_3; first | rwa [add_block] at this | exact this) GW280.out)) | (dsimp only; exact Nat.ne_of_lt (Nat.lt_of_lt_of_le (by have := World.block_lt_of_cell? _ _ hw275_3; first | rwa [add_block] at this | exact this) GW280.out))) _).trans (hHeld.2.2.2.2.2.2.2.1)))))))))))), ((cell_far (p := ⟨gb280, _, none⟩) (by first | exact Nat.ne_of_lt (Nat.lt_of_lt_of_le (by have := World.block_lt_of_cell? _ _ hw276_0; first | rwa [add_block] at this | exact this) GW280.out) | (rw [add_block]; exact Nat.ne_of_lt (Nat.lt_of_lt_of_le (by have := World.block_lt_of_cell? _ _ hw276_0; first | rwa [add_block] at this | exact this) GW280.out)) | (show (Addr.add _ _).block ≠ _; rw [add_block]; exact Nat.ne_of_lt (Nat.lt_of_lt_of_le (by have := World.block_lt_of_cell? _ _ hw276_0; first | rwa [add_block] at this | exact this) GW280.out)) | (dsimp only; exact Nat.ne_of_lt (Nat.lt_of_lt_of_le (by have := World.block_lt_of_cell? _ _ hw276_0; first | rwa [add_block] at this | exact this) GW280.out))) _).trans (((cell_far (p := ⟨gb280, _, none⟩) (by first | exact Nat.ne_of_lt (Nat.lt_of_lt_of_le (by have := World.block_lt_of_cell? _ _ hw276_0; first | rwa [add_block] at this | exact this) GW280.out) | (rw [add_block]; exact Nat.ne_of_lt (Nat.lt_of_lt_of_le (by have := World.block_lt_of_cell? _ _ hw276_0; first | rwa [add_block] at this | exact this) GW280.out)) | (show (Addr.add _ _).block ≠ _; rw [add_block]; exact Nat.ne_of_lt (Nat.lt_of_lt_of_le (by have := World.block_lt_of_cell? _ _ hw276_0; first | rwa [add_block] at this | exact this) GW280.out)) | (dsimp only; exact Nat.ne_of_lt (Nat.lt_of_lt_of_le (by have := World.block_lt_of_cell? _ _ hw276_0; first | rwa [add_block] at this | exact this) GW280.out))) _).trans (((cell_far (p := ⟨gb280, _, none⟩) (by first | exact Nat.ne_of_lt (Nat.lt_of_lt_of_le (by have := World.block_lt_of_cell? _ _ hw276_0; first | rwa [add_block] at this | exact this) GW280.out) | (rw [add_block]; exact Nat.ne_of_lt (Nat.lt_of_lt_of_le (by have := World.block_lt_of_cell? _ _ hw276_0; first | rwa [add_block] at this | exact this) GW280.out)) | (show (Addr.add _ _).block ≠ _; rw [add_block]; exact Nat.ne_of_lt (Nat.lt_of_lt_of_le (by have := World.block_lt_of_cell? _ _ hw276_0; first | rwa [add_block] at this | exact this) GW280.out)) | (dsimp only; exact Nat.ne_of_lt (Nat.lt_of_lt_of_le (by have := World.block_lt_of_cell? _ _ hw276_0; first | rwa [add_block] at this | exact this) GW280.out))) _).trans (((cell_far (p := ⟨gb280, _, none⟩) (by first | exact Nat.ne_of_lt (Nat.lt_of_lt_of_le (by have := World.block_lt_of_cell? _ _ hw276_0; first | rwa [add_block] at this | exact this) GW280.out) | (rw [add_block]; exact Nat.ne_of_lt (Nat.lt_of_lt_of_le (by have := World.block_lt_of_cell? _ _ hw276_0; first | rwa [add_block] at this | exact this) GW280.out)) | (show (Addr.add _ _).block ≠ _; rw [add_block]; exact Nat.ne_of_lt (Nat.lt_of_lt_of_le (by have := World.block_lt_of_cell? _ _ hw276_0; first | rwa [add_block] at this | exact this) GW280.out)) | (dsimp only; exact Nat.ne_of_lt (Nat.lt_of_lt_of_le (by have := World.block_lt_of_cell? _ _ hw276_0; first | rwa [add_block] at this | exact this) GW280.out))) _).trans (((cell_far (p := ⟨gb280, _, none⟩) (by first | exact Nat.ne_of_lt (Nat.lt_of_lt_of_le (by have := World.block_lt_of_cell? _ _ hw276_0; first | rwa [add_block] at this | exact this) GW280.out) | (rw [add_block]; exact Nat.ne_of_lt (Nat.lt_of_lt_of_le (by have := World.block_lt_of_cell? _ _ hw276_0; first | rwa [add_block] at this | exact this) GW280.out)) | (show (Addr.add _ _).block ≠ _; rw [add_block]; exact Nat.ne_of_lt (Nat.lt_of_lt_of_le (by have := World.block_lt_of_cell? _ _ hw276_0; first | rwa [add_block] at this | exact this) GW280.out)) | (dsimp only; exact Nat.ne_of_lt (Nat.lt_of_lt_of_le (by have := World.block_lt_of_cell? _ _ hw276_0; first | rwa [add_block] at this | exact this) GW280.out))) _).trans (((cell_far (p := ⟨gb280, _, none⟩) (by first | exact Nat.ne_of_lt (Nat.lt_of_lt_of_le (by have := World.block_lt_of_cell? _ _ hw276_0; first | rwa [add_block] at this | exact this) GW280.out) | (rw [add_block]; exact Nat.ne_of_lt (Nat.lt_of_lt_of_le (by have := World.block_lt_of_cell? _ _ hw276_0; first | rwa [add_block] at this | exact this) GW280.out)) | (show (Addr.add _ _).block ≠ _; rw [add_block]; exact Nat.ne_of_lt (Nat.lt_of_lt_of_le (by have := World.block_lt_of_cell? _ _ hw276_0; first | rwa [add_block] at this | exact this) GW280.out)) | (dsimp only; exact Nat.ne_of_lt (Nat.lt_of_lt_of_le (by have := World.block_lt_of_cell? _ _ hw276_0; first | rwa [add_block] at this | exact this) GW280.out))) _).trans (hHeld.2.2.2.2.2.2.2.2.1)))))))))))), ((cell_far (p := ⟨gb280, _, none⟩) (by first | exact Nat.ne_of_lt (Nat.lt_of_lt_of_le (by have := World.block_lt_of_cell? _ _ hw276_1; first | rwa [add_block] at this | exact this) GW280.out) | (rw [add_block]; exact Nat.ne_of_lt (Nat.lt_of_lt_of_le (by have := World.block_lt_of_cell? _ _ hw276_1; first | rwa [add_block] at this | exact this) GW280.out)) | (show (Addr.add _ _).block ≠ _; rw [add_block]; exact Nat.ne_of_lt (Nat.lt_of_lt_of_le (by have := World.block_lt_of_cell? _ _ hw276_1; first | rwa [add_block] at this | exact this) GW280.out)) | (dsimp only; exact Nat.ne_of_lt (Nat.lt_of_lt_of_le (by have := World.block_lt_of_cell? _ _ hw276_1; first | rwa [add_block] at this | exact this) GW280.out))) _).trans (((cell_far (p := ⟨gb280, _, none⟩) (by first | exact Nat.ne_of_lt (Nat.lt_of_lt_of_le (by have := World.block_lt_of_cell? _ _ hw276_1; first | rwa [add_block] at this | exact this) GW280.out) | (rw [add_block]; exact Nat.ne_of_lt (Nat.lt_of_lt_of_le (by have := World.block_lt_of_cell? _ _ hw276_1; first | rwa [add_block] at this | exact this) GW280.out)) | (show (Addr.add _ _).block ≠ _; rw [add_block]; exact Nat.ne_of_lt (Nat.lt_of_lt_of_le (by have := World.block_lt_of_cell? _ _ hw276_1; first | rwa [add_block] at this | exact this) GW280.out)) | (dsimp only; exact Nat.ne_of_lt (Nat.lt_of_lt_of_le (by have := World.block_lt_of_cell? _ _ hw276_1; first | rwa [add_block] at this | exact this) GW280.out))) _).trans (((cell_far (p := ⟨gb280, _, none⟩) (by first | exact Nat.ne_of_lt (Nat.lt_of_lt_of_le (by have := World.block_lt_of_cell? _ _ hw276_1; first | rwa [add_block] at this | exact this) GW280.out) | (rw [add_block]; exact Nat.ne_of_lt (Nat.lt_of_lt_of_le (by have := World.block_lt_of_cell? _ _ hw276_1; first | rwa [add_block] at this | exact this) GW280.out)) | (show (Addr.add _ _).block ≠ _; rw [add_block]; exact Nat.ne_of_lt (Nat.lt_of_lt_of_le (by have := World.block_lt_of_cell? _ _ hw276_1; first | rwa [add_block] at this | exact this) GW280.out)) | (dsimp only; exact Nat.ne_of_lt (Nat.lt_of_lt_of_le (by have := World.block_lt_of_cell? _ _ hw276_1; first | rwa [add_block] at this | exact this) GW280.out))) _).trans (((cell_far (p := ⟨gb280, _, none⟩) (by first | exact Nat.ne_of_lt (Nat.lt_of_lt_of_le (by have := World.block_lt_of_cell? _ _ hw276_1; first | rwa [add_block] at this | exact this) GW280.out) | (rw [add_block]; exact Nat.ne_of_lt (Nat.lt_of_lt_of_le (by have := World.block_lt_of_cell? _ _ hw276_1; first | rwa [add_block] at this | exact this) GW280.out)) | (show (Addr.add _ _).block ≠ _; rw [add_block]; exact Nat.ne_of_lt (Nat.lt_of_lt_of_le (by have := World.block_lt_of_cell? _ _ hw276_1; first | rwa [add_block] at this | exact this) GW280.out)) | (dsimp only; exact Nat.ne_of_lt (Nat.lt_of_lt_of_le (by have := World.block_lt_of_cell? _ _ hw276_1; first | rwa [add_block] at this | exact this) GW280.out))) _).trans (((cell_far (p := ⟨gb280, _, none⟩) (by first | exact Nat.ne_of_lt (Nat.lt_of_lt_of_le (by have := World.block_lt_of_cell? _ _ hw276_1; first | rwa [add_block] at this | exact this) GW280.out) | (rw [add_block]; exact Nat.ne_of_lt (Nat.lt_of_lt_of_le (by have := World.block_lt_of_cell? _ _ hw276_1; first | rwa [add_block] at this | exact this) GW280.out)) | (show (Addr.add _ _).block ≠ _; rw [add_block]; exact Nat.ne_of_lt (Nat.lt_of_lt_of_le (by have := World.block_lt_of_cell? _ _ hw276_1; first | rwa [add_block] at this | exact this) GW280.out)) | (dsimp only; exact Nat.ne_of_lt (Nat.lt_of_lt_of_le (by have := World.block_lt_of_cell? _ _ hw276_1; first | rwa [add_block] at this | exact this) GW280.out))) _).trans (((cell_far (p := ⟨gb280, _, none⟩) (by first | exact Nat.ne_of_lt (Nat.lt_of_lt_of_le (by have := World.block_lt_of_cell? _ _ hw276_1; first | rwa [add_block] at this | exact this) GW280.out) | (rw [add_block]; exact Nat.ne_of_lt (Nat.lt_of_lt_of_le (by have := World.block_lt_of_cell? _ _ hw276_1; first | rwa [add_block] at this | exact this) GW280.out)) | (show (Addr.add _ _).block ≠ _; rw [add_block]; exact Nat.ne_of_lt (Nat.lt_of_lt_of_le (by have := World.block_lt_of_cell? _ _ hw276_1; first | rwa [add_block] at this | exact this) GW280.out)) | (dsimp only; exact Nat.ne_of_lt (Nat.lt_of_lt_of_le (by have := World.block_lt_of_cell? _ _ hw276_1; first | rwa [add_block] at this | exact this) GW280.out))) _).trans (hHeld.2.2.2.2.2.2.2.2.2.1)))))))))))), ((cell_far (p := ⟨gb280, _, none⟩) (by first | exact Nat.ne_of_lt (Nat.lt_of_lt_of_le (by have := World.block_lt_of_cell? _ _ hw276_2; first | rwa [add_block] at this | exact this) GW280.out) | (rw [add_block]; exact Nat.ne_of_lt (Nat.lt_of_lt_of_le (by have := World.block_lt_of_cell? _ _ hw276_2; first | rwa [add_block] at this | exact this) GW280.out)) | (show (Addr.add _ _).block ≠ _; rw [add_block]; exact Nat.ne_of_lt (Nat.lt_of_lt_of_le (by have := World.block_lt_of_cell? _ _ hw276_2; first | rwa [add_block] at this | exact this) GW280.out)) | (dsimp only; exact Nat.ne_of_lt (Nat.lt_of_lt_of_le (by have := World.block_lt_of_cell? _ _ hw276_2; first | rwa [add_block] at this | exact this) GW280.out))) _).trans (((cell_far (p := ⟨gb280, _, none⟩) (by first | exact Nat.ne_of_lt (Nat.lt_of_lt_of_le (by have := World.block_lt_of_cell? _ _ hw276_2; first | rwa [add_block] at this | exact this) GW280.out) | (rw [add_block]; exact Nat.ne_of_lt (Nat.lt_of_lt_of_le (by have := World.block_lt_of_cell? _ _ hw276_2; first | rwa [add_block] at this | exact this) GW280.out)) | (show (Addr.add _ _).block ≠ _; rw [add_block]; exact Nat.ne_of_lt (Nat.lt_of_lt_of_le (by have := World.block_lt_of_cell? _ _ hw276_2; first | rwa [add_block] at this | exact this) GW280.out)) | (dsimp only; exact Nat.ne_of_lt (Nat.lt_of_lt_of_le (by have := World.block_lt_of_cell? _ _ hw276_2; first | rwa [add_block] at this | exact this) GW280.out))) _).trans (((cell_far (p := ⟨gb280, _, none⟩) (by first | exact Nat.ne_of_lt (Nat.lt_of_lt_of_le (by have := World.block_lt_of_cell? _ _ hw276_2; first | rwa [add_block] at this | exact this) GW280.out) | (rw [add_block]; exact Nat.ne_of_lt (Nat.lt_of_lt_of_le (by have := World.block_lt_of_cell? _ _ hw276_2; first | rwa [add_block] at this | exact this) GW280.out)) | (show (Addr.add _ _).block ≠ _; rw [add_block]; exact Nat.ne_of_lt (Nat.lt_of_lt_of_le (by have := World.block_lt_of_cell? _ _ hw276_2; first | rwa [add_block] at this | exact this) GW280.out)) | (dsimp only; exact Nat.ne_of_lt (Nat.lt_of_lt_of_le (by have := World.block_lt_of_cell? _ _ hw276_2; first | rwa [add_block] at this | exact this) GW280.out))) _).trans (((cell_far (p := ⟨gb280, _, none⟩) (by first | exact Nat.ne_of_lt (Nat.lt_of_lt_of_le (by have := World.block_lt_of_cell? _ _ hw276_2; first | rwa [add_block] at this | exact this) GW280.out) | (rw [add_block]; exact Nat.ne_of_lt (Nat.lt_of_lt_of_le (by have := World.block_lt_of_cell? _ _ hw276_2; first | rwa [add_block] at this | exact this) GW280.out)) | (show (Addr.add _ _).block ≠ _; rw [add_block]; exact Nat.ne_of_lt (Nat.lt_of_lt_of_le (by have := World.block_lt_of_cell? _ _ hw276_2; first | rwa [add_block] at this | exact this) GW280.out)) | (dsimp only; exact Nat.ne_of_lt (Nat.lt_of_lt_of_le (by have := World.block_lt_of_cell? _ _ hw276_2; first | rwa [add_block] at this | exact this) GW280.out))) _).trans (((cell_far (p := ⟨gb280, _, none⟩) (by first | exact Nat.ne_of_lt (Nat.lt_of_lt_of_le (by have := World.block_lt_of_cell? _ _ hw276_2; first | rwa [add_block] at this | exact this) GW280.out) | (rw [add_block]; exact Nat.ne_of_lt (Nat.lt_of_lt_of_le (by have := World.block_lt_of_cell? _ _ hw276_2; first | rwa [add_block] at this | exact this) GW280.out)) | (show (Addr.add _ _).block ≠ _; rw [add_block]; exact Nat.ne_of_lt (Nat.lt_of_lt_of_le (by have := World.block_lt_of_cell? _ _ hw276_2; first | rwa [add_block] at this | exact this) GW280.out)) | (dsimp only; exact Nat.ne_of_lt (Nat.lt_of_lt_of_le (by have := World.block_lt_of_cell? _ _ hw276_2; first | rwa [add_block] at this | exact this) GW280.out))) _).trans (((cell_far (p := ⟨gb280, _, none⟩) (by first | exact Nat.ne_of_lt (Nat.lt_of_lt_of_le (by have := World.block_lt_of_cell? _ _ hw276_2; first | rwa [add_block] at this | exact this) GW280.out) | (rw [add_block]; exact Nat.ne_of_lt (Nat.lt_of_lt_of_le (by have := World.block_lt_of_cell? _ _ hw276_2; first | rwa [add_block] at this | exact this) GW280.out)) | (show (Addr.add _ _).block ≠ _; rw [add_block]; exact Nat.ne_of_lt (Nat.lt_of_lt_of_le (by have := World.block_lt_of_cell? _ _ hw276_2; first | rwa [add_block] at this | exact this) GW280.out)) | (dsimp only; exact Nat.ne_of_lt (Nat.lt_of_lt_of_le (by have := World.block_lt_of_cell? _ _ hw276_2; first | rwa [add_block] at this | exact this) GW280.out))) _).trans (hHeld.2.2.2.2.2.2.2.2.2.2.1)))))))))))), ((cell_far (p := ⟨gb280, _, none⟩) (by first | exact Nat.ne_of_lt (Nat.lt_of_lt_of_le (by have := World.block_lt_of_cell? _ _ hw276_3; first | rwa [add_block] at this | exact this) GW280.out) | (rw [add_block]; exact Nat.ne_of_lt (Nat.lt_of_lt_of_le (by have := World.block_lt_of_cell? _ _ hw276_3; first | rwa [add_block] at this | exact this) GW280.out)) | (show (Addr.add _ _).block ≠ _; rw [add_block]; exact Nat.ne_of_lt (Nat.lt_of_lt_of_le (by have := World.block_lt_of_cell? _ _ hw276_3; first | rwa [add_block] at this | exact this) GW280.out)) | (dsimp only; exact Nat.ne_of_lt (Nat.lt_of_lt_of_le (by have := World.block_lt_of_cell? _ _ hw276_3; first | rwa [add_block] at this | exact this) GW280.out))) _).trans (((cell_far (p := ⟨gb280, _, none⟩) (by first | exact Nat.ne_of_lt (Nat.lt_of_lt_of_le (by have := World.block_lt_of_cell? _ _ hw276_3; first | rwa [add_block] at this | exact this) GW280.out) | (rw [add_block]; exact Nat.ne_of_lt (Nat.lt_of_lt_of_le (by have := World.block_lt_of_cell? _ _ hw276_3; first | rwa [add_block] at this | exact this) GW280.out)) | (show (Addr.add _ _).block ≠ _; rw [add_block]; exact Nat.ne_of_lt (Nat.lt_of_lt_of_le (by have := World.block_lt_of_cell? _ _ hw276_3; first | rwa [add_block] at this | exact this) GW280.out)) | (dsimp only; exact Nat.ne_of_lt (Nat.lt_of_lt_of_le (by have := World.block_lt_of_cell? _ _ hw276_3; first | rwa [add_block] at this | exact this) GW280.out))) _).trans (((cell_far (p := ⟨gb280, _, none⟩) (by first | exact Nat.ne_of_lt (Nat.lt_of_lt_of_le (by have := World.block_lt_of_cell? _ _ hw276_3; first | rwa [add_block] at this | exact this) GW280.out) | (rw [add_block]; exact Nat.ne_of_lt (Nat.lt_of_lt_of_le (by have := World.block_lt_of_cell? _ _ hw276_3; first | rwa [add_block] at this | exact this) GW280.out)) | (show (Addr.add _ _).block ≠ _; rw [add_block]; exact Nat.ne_of_lt (Nat.lt_of_lt_of_le (by have := World.block_lt_of_cell? _ _ hw276_3; first | rwa [add_block] at this | exact this) GW280.out)) | (dsimp only; exact Nat.ne_of_lt (Nat.lt_of_lt_of_le (by have := World.block_lt_of_cell? _ _ hw276_3; first | rwa [add_block] at this | exact this) GW280.out))) _).trans (((cell_far (p := ⟨gb280, _, none⟩) (by first | exact Nat.ne_of_lt (Nat.lt_of_lt_of_le (by have := World.block_lt_of_cell? _ _ hw276_3; first | rwa [add_block] at this | exact this) GW280.out) | (rw [add_block]; exact Nat.ne_of_lt (Nat.lt_of_lt_of_le (by have := World.block_lt_of_cell? _ _ hw276_3; first | rwa [add_block] at this | exact this) GW280.out)) | (show (Addr.add _ _).block ≠ _; rw [add_block]; exact Nat.ne_of_lt (Nat.lt_of_lt_of_le (by have := World.block_lt_of_cell? _ _ hw276_3; first | rwa [add_block] at this | exact this) GW280.out)) | (dsimp only; exact Nat.ne_of_lt (Nat.lt_of_lt_of_le (by have := World.block_lt_of_cell? _ _ hw276_3; first | rwa [add_block] at this | exact this) GW280.out))) _).trans (((cell_far (p := ⟨gb280, _, none⟩) (by first | exact Nat.ne_of_lt (Nat.lt_of_lt_of_le (by have := World.block_lt_of_cell? _ _ hw276_3; first | rwa [add_block] at this | exact this) GW280.out) | (rw [add_block]; exact Nat.ne_of_lt (Nat.lt_of_lt_of_le (by have := World.block_lt_of_cell? _ _ hw276_3; first | rwa [add_block] at this | exact this) GW280.out)) | (show (Addr.add _ _).block ≠ _; rw [add_block]; exact Nat.ne_of_lt (Nat.lt_of_lt_of_le (by have := World.block_lt_of_cell? _ _ hw276_3; first | rwa [add_block] at this | exact this) GW280.out)) | (dsimp only; exact Nat.ne_of_lt (Nat.lt_of_lt_of_le (by have := World.block_lt_of_cell? _ _ hw276_3; first | rwa [add_block] at this | exact this) GW280.out))) _).trans (((cell_far (p := ⟨gb280, _, none⟩) (by first | exact Nat.ne_of_lt (Nat.lt_of_lt_of_le (by have := World.block_lt_of_cell? _ _ hw276_3; first | rwa [add_block] at this | exact this) GW280.out) | (rw [add_block]; exact Nat.ne_of_lt (Nat.lt_of_lt_of_le (by have := World.block_lt_of_cell? _ _ hw276_3; first | rwa [add_block] at this | exact this) GW280.out)) | (show (Addr.add _ _).block ≠ _; rw [add_block]; exact Nat.ne_of_lt (Nat.lt_of_lt_of_le (by have := World.block_lt_of_cell? _ _ hw276_3; first | rwa [add_block] at this | exact this) GW280.out)) | (dsimp only; exact Nat.ne_of_lt (Nat.lt_of_lt_of_le (by have := World.block_lt_of_cell? _ _ hw276_3; first | rwa [add_block] at this | exact this) GW280.out))) _).trans (hHeld.2.2.2.2.2.2.2.2.2.2.2.1)))))))))))), ((cell_far (p := ⟨gb280, _, none⟩) (by first | exact Nat.ne_of_lt (Nat.lt_of_lt_of_le (by have := World.block_lt_of_cell? _ _ hw277_0; first | rwa [add_block] at this | exact this) GW280.out) | (rw [add_block]; exact Nat.ne_of_lt (Nat.lt_of_lt_of_le (by have := World.block_lt_of_cell? _ _ hw277_0; first | rwa [add_block] at this | exact this) GW280.out)) | (show (Addr.add _ _).block ≠ _; rw [add_block]; exact Nat.ne_of_lt (Nat.lt_of_lt_of_le (by have := World.block_lt_of_cell? _ _ hw277_0; first | rwa [add_block] at this | exact this) GW280.out)) | (dsimp only; exact Nat.ne_of_lt (Nat.lt_of_lt_of_le (by have := World.block_lt_of_cell? _ _ hw277_0; first | rwa [add_block] at this | exact this) GW280.out))) _).trans (((cell_far (p := ⟨gb280, _, none⟩) (by first | exact Nat.ne_of_lt (Nat.lt_of_lt_of_le (by have := World.block_lt_of_cell? _ _ hw277_0; first | rwa [add_block] at this | exact this) GW280.out) | (rw [add_block]; exact Nat.ne_of_lt (Nat.lt_of_lt_of_le (by have := World.block_lt_of_cell? _ _ hw277_0; first | rwa [add_block] at this | exact this) GW280.out)) | (show (Addr.add _ _).block ≠ _; rw [add_block]; exact Nat.ne_of_lt (Nat.lt_of_lt_of_le (by have := World.block_lt_of_cell? _ _ hw277_0; first | rwa [add_block] at this | exact this) GW280.out)) | (dsimp only; exact Nat.ne_of_lt (Nat.lt_of_lt_of_le (by have := World.block_lt_of_cell? _ _ hw277_0; first | rwa [add_block] at this | exact this) GW280.out))) _).trans (((cell_far (p := ⟨gb280, _, none⟩) (by first | exact Nat.ne_of_lt (Nat.lt_of_lt_of_le (by have := World.block_lt_of_cell? _ _ hw277_0; first | rwa [add_block] at this | exact this) GW280.out) | (rw [add_block]; exact Nat.ne_of_lt (Nat.lt_of_lt_of_le (by have := World.block_lt_of_cell? _ _ hw277_0; first | rwa [add_block] at this | exact this) GW280.out)) | (show (Addr.add _ _).block ≠ _; rw [add_block]; exact Nat.ne_of_lt (Nat.lt_of_lt_of_le (by have := World.block_lt_of_cell? _ _ hw277_0; first | rwa [add_block] at this | exact this) GW280.out)) | (dsimp only; exact Nat.ne_of_lt (Nat.lt_of_lt_of_le (by have := World.block_lt_of_cell? _ _ hw277_0; first | rwa [add_block] at this | exact this) GW280.out))) _).trans (((cell_far (p := ⟨gb280, _, none⟩) (by first | exact Nat.ne_of_lt (Nat.lt_of_lt_of_le (by have := World.block_lt_of_cell? _ _ hw277_0; first | rwa [add_block] at this | exact this) GW280.out) | (rw [add_block]; exact Nat.ne_of_lt (Nat.lt_of_lt_of_le (by have := World.block_lt_of_cell? _ _ hw277_0; first | rwa [add_block] at this | exact this) GW280.out)) | (show (Addr.add _ _).block ≠ _; rw [add_block]; exact Nat.ne_of_lt (Nat.lt_of_lt_of_le (by have := World.block_lt_of_cell? _ _ hw277_0; first | rwa [add_block] at this | exact this) GW280.out)) | (dsimp only; exact Nat.ne_of_lt (Nat.lt_of_lt_of_le (by have := World.block_lt_of_cell? _ _ hw277_0; first | rwa [add_block] at this | exact this) GW280.out))) _).trans (((cell_far (p := ⟨gb280, _, none⟩) (by first | exact Nat.ne_of_lt (Nat.lt_of_lt_of_le (by have := World.block_lt_of_cell? _ _ hw277_0; first | rwa [add_block] at this | exact this) GW280.out) | (rw [add_block]; exact Nat.ne_of_lt (Nat.lt_of_lt_of_le (by have := World.block_lt_of_cell? _ _ hw277_0; first | rwa [add_block] at this | exact this) GW280.out)) | (show (Addr.add _ _).block ≠ _; rw [add_block]; exact Nat.ne_of_lt (Nat.lt_of_lt_of_le (by have := World.block_lt_of_cell? _ _ hw277_0; first | rwa [add_block] at this | exact this) GW280.out)) | (dsimp only; exact Nat.ne_of_lt (Nat.lt_of_lt_of_le (by have := World.block_lt_of_cell? _ _ hw277_0; first | rwa [add_block] at this | exact this) GW280.out))) _).trans (((cell_far (p := ⟨gb280, _, none⟩) (by first | exact Nat.ne_of_lt (Nat.lt_of_lt_of_le (by have := World.block_lt_of_cell? _ _ hw277_0; first | rwa [add_block] at this | exact this) GW280.out) | (rw [add_block]; exact Nat.ne_of_lt (Nat.lt_of_lt_of_le (by have := World.block_lt_of_cell? _ _ hw277_0; first | rwa [add_block] at this | exact this) GW280.out)) | (show (Addr.add _ _).block ≠ _; rw [add_block]; exact Nat.ne_of_lt (Nat.lt_of_lt_of_le (by have := World.block_lt_of_cell? _ _ hw277_0; first | rwa [add_block] at this | exact this) GW280.out)) | (dsimp only; exact Nat.ne_of_lt (Nat.lt_of_lt_of_le (by have := World.block_lt_of_cell? _ _ hw277_0; first | rwa [add_block] at this | exact this) GW280.out))) _).trans (hHeld.2.2.2.2.2.2.2.2.2.2.2.2.1)))))))))))), ((cell_far (p := ⟨gb280, _, none⟩) (by first | exact Nat.ne_of_lt (Nat.lt_of_lt_of_le (by have := World.block_lt_of_cell? _ _ hw277_1; first | rwa [add_block] at this | exact this) GW280.out) | (rw [add_block]; exact Nat.ne_of_lt (Nat.lt_of_lt_of_le (by have := World.block_lt_of_cell? _ _ hw277_1; first | rwa [add_block] at this | exact this) GW280.out)) | (show (Addr.add _ _).block ≠ _; rw [add_block]; exact Nat.ne_of_lt (Nat.lt_of_lt_of_le (by have := World.block_lt_of_cell? _ _ hw277_1; first | rwa [add_block] at this | exact this) GW280.out)) | (dsimp only; exact Nat.ne_of_lt (Nat.lt_of_lt_of_le (by have := World.block_lt_of_cell? _ _ hw277_1; first | rwa [add_block] at this | exact this) GW280.out))) _).trans (((cell_far (p := ⟨gb280, _, none⟩) (by first | exact Nat.ne_of_lt (Nat.lt_of_lt_of_le (by have := World.block_lt_of_cell? _ _ hw277_1; first | rwa [add_block] at this | exact this) GW280.out) | (rw [add_block]; exact Nat.ne_of_lt (Nat.lt_of_lt_of_le (by have := World.block_lt_of_cell? _ _ hw277_1; first | rwa [add_block] at this | exact this) GW280.out)) | (show (Addr.add _ _).block ≠ _; rw [add_block]; exact Nat.ne_of_lt (Nat.lt_of_lt_of_le (by have := World.block_lt_of_cell? _ _ hw277_1; first | rwa [add_block] at this | exact this) GW280.out)) | (dsimp only; exact Nat.ne_of_lt (Nat.lt_of_lt_of_le (by have := World.block_lt_of_cell? _ _ hw277_1; first | rwa [add_block] at this | exact this) GW280.out))) _).trans (((cell_far (p := ⟨gb280, _, none⟩) (by first | exact Nat.ne_of_lt (Nat.lt_of_lt_of_le (by have := World.block_lt_of_cell? _ _ hw277_1; first | rwa [add_block] at this | exact this) GW280.out) | (rw [add_block]; exact Nat.ne_of_lt (Nat.lt_of_lt_of_le (by have := World.block_lt_of_cell? _ _ hw277_1; first | rwa [add_block] at this | exact this) GW280.out)) | (show (Addr.add _ _).block ≠ _; rw [add_block]; exact Nat.ne_of_lt (Nat.lt_of_lt_of_le (by have := World.block_lt_of_cell? _ _ hw277_1; first | rwa [add_block] at this | exact this) GW280.out)) | (dsimp only; exact Nat.ne_of_lt (Nat.lt_of_lt_of_le (by have := World.block_lt_of_cell? _ _ hw277_1; first | rwa [add_block] at this | exact this) GW280.out))) _).trans (((cell_far (p := ⟨gb280, _, none⟩) (by first | exact Nat.ne_of_lt (Nat.lt_of_lt_of_le (by have := World.block_lt_of_cell? _ _ hw277_1; first | rwa [add_block] at this | exact this) GW280.out) | (rw [add_block]; exact Nat.ne_of_lt (Nat.lt_of_lt_of_le (by have := World.block_lt_of_cell? _ _ hw277_1; first | rwa [add_block] at this | exact this) GW280.out)) | (show (Addr.add _ _).block ≠ _; rw [add_block]; exact Nat.ne_of_lt (Nat.lt_of_lt_of_le (by have := World.block_lt_of_cell? _ _ hw277_1; first | rwa [add_block] at this | exact this) GW280.out)) | (dsimp only; exact Nat.ne_of_lt (Nat.lt_of_lt_of_le (by have := World.block_lt_of_cell? _ _ hw277_1; first | rwa [add_block] at this | exact this) GW280.out))) _).trans (((cell_far (p := ⟨gb280, _, none⟩) (by first | exact Nat.ne_of_lt (Nat.lt_of_lt_of_le (by have := World.block_lt_of_cell? _ _ hw277_1; first | rwa [add_block] at this | exact this) GW280.out) | (rw [add_block]; exact Nat.ne_of_lt (Nat.lt_of_lt_of_le (by have := World.block_lt_of_cell? _ _ hw277_1; first | rwa [add_block] at this | exact this) GW280.out)) | (show (Addr.add _ _).block ≠ _; rw [add_block]; exact Nat.ne_of_lt (Nat.lt_of_lt_of_le (by have := World.block_lt_of_cell? _ _ hw277_1; first | rwa [add_block] at this | exact this) GW280.out)) | (dsimp only; exact Nat.ne_of_lt (Nat.lt_of_lt_of_le (by have := World.block_lt_of_cell? _ _ hw277_1; first | rwa [add_block] at this | exact this) GW280.out))) _).trans (((cell_far (p := ⟨gb280, _, none⟩) (by first | exact Nat.ne_of_lt (Nat.lt_of_lt_of_le (by have := World.block_lt_of_cell? _ _ hw277_1; first | rwa [add_block] at this | exact this) GW280.out) | (rw [add_block]; exact Nat.ne_of_lt (Nat.lt_of_lt_of_le (by have := World.block_lt_of_cell? _ _ hw277_1; first | rwa [add_block] at this | exact this) GW280.out)) | (show (Addr.add _ _).block ≠ _; rw [add_block]; exact Nat.ne_of_lt (Nat.lt_of_lt_of_le (by have := World.block_lt_of_cell? _ _ hw277_1; first | rwa [add_block] at this | exact this) GW280.out)) | (dsimp only; exact Nat.ne_of_lt (Nat.lt_of_lt_of_le (by have := World.block_lt_of_cell? _ _ hw277_1; first | rwa [add_block] at this | exact this) GW280.out))) _).trans (hHeld.2.2.2.2.2.2.2.2.2.2.2.2.2.1)))))))))))), ((cell_far (p := ⟨gb280, _, none⟩) (by first | exact Nat.ne_of_lt (Nat.lt_of_lt_of_le (by have := World.block_lt_of_cell? _ _ hw277_2; first | rwa [add_block] at this | exact this) GW280.out) | (rw [add_block]; exact Nat.ne_of_lt (Nat.lt_of_lt_of_le (by have := World.block_lt_of_cell? _ _ hw277_2; first | rwa [add_block] at this | exact this) GW280.out)) | (show (Addr.add _ _).block ≠ _; rw [add_block]; exact Nat.ne_of_lt (Nat.lt_of_lt_of_le (by have := World.block_lt_of_cell? _ _ hw277_2; first | rwa [add_block] at this | exact this) GW280.out)) | (dsimp only; exact Nat.ne_of_lt (Nat.lt_of_lt_of_le (by have := World.block_lt_of_cell? _ _ hw277_2; first | rwa [add_block] at this | exact this) GW280.out))) _).trans (((cell_far (p := ⟨gb280, _, none⟩) (by first | exact Nat.ne_of_lt (Nat.lt_of_lt_of_le (by have := World.block_lt_of_cell? _ _ hw277_2; first | rwa [add_block] at this | exact this) GW280.out) | (rw [add_block]; exact Nat.ne_of_lt (Nat.lt_of_lt_of_le (by have := World.block_lt_of_cell? _ _ hw277_2; first | rwa [add_block] at this | exact this) GW280.out)) | (show (Addr.add _ _).block ≠ _; rw [add_block]; exact Nat.ne_of_lt (Nat.lt_of_lt_of_le (by have := World.block_lt_of_cell? _ _ hw277_2; first | rwa [add_block] at this | exact this) GW280.out)) | (dsimp only; exact Nat.ne_of_lt (Nat.lt_of_lt_of_le (by have := World.block_lt_of_cell? _ _ hw277_2; first | rwa [add_block] at this | exact this) GW280.out))) _).trans (((cell_far (p := ⟨gb280, _, none⟩) (by first | exact Nat.ne_of_lt (Nat.lt_of_lt_of_le (by have := World.block_lt_of_cell? _ _ hw277_2; first | rwa [add_block] at this | exact this) GW280.out) | (rw [add_block]; exact Nat.ne_of_lt (Nat.lt_of_lt_of_le (by have := World.block_lt_of_cell? _ _ hw277_2; first | rwa [add_block] at this | exact this) GW280.out)) | (show (Addr.add _ _).block ≠ _; rw [add_block]; exact Nat.ne_of_lt (Nat.lt_of_lt_of_le (by have := World.block_lt_of_cell? _ _ hw277_2; first | rwa [add_block] at this | exact this) GW280.out)) | (dsimp only; exact Nat.ne_of_lt (Nat.lt_of_lt_of_le (by have := World.block_lt_of_cell? _ _ hw277_2; first | rwa [add_block] at this | exact this) GW280.out))) _).trans (((cell_far (p := ⟨gb280, _, none⟩) (by first | exact Nat.ne_of_lt (Nat.lt_of_lt_of_le (by have := World.block_lt_of_cell? _ _ hw277_2; first | rwa [add_block] at this | exact this) GW280.out) | (rw [add_block]; exact Nat.ne_of_lt (Nat.lt_of_lt_of_le (by have := World.block_lt_of_cell? _ _ hw277_2; first | rwa [add_block] at this | exact this) GW280.out)) | (show (Addr.add _ _).block ≠ _; rw [add_block]; exact Nat.ne_of_lt (Nat.lt_of_lt_of_le (by have := World.block_lt_of_cell? _ _ hw277_2; first | rwa [add_block] at this | exact this) GW280.out)) | (dsimp only; exact Nat.ne_of_lt (Nat.lt_of_lt_of_le (by have := World.block_lt_of_cell? _ _ hw277_2; first | rwa [add_block] at this | exact this) GW280.out))) _).trans (((cell_far (p := ⟨gb280, _, none⟩) (by first | exact Nat.ne_of_lt (Nat.lt_of_lt_of_le (by have := World.block_lt_of_cell? _ _ hw277_2; first | rwa [add_block] at this | exact this) GW280.out) | (rw [add_block]; exact Nat.ne_of_lt (Nat.lt_of_lt_of_le (by have := World.block_lt_of_cell? _ _ hw277_2; first | rwa [add_block] at this | exact this) GW280.out)) | (show (Addr.add _ _).block ≠ _; rw [add_block]; exact Nat.ne_of_lt (Nat.lt_of_lt_of_le (by have := World.block_lt_of_cell? _ _ hw277_2; first | rwa [add_block] at this | exact this) GW280.out)) | (dsimp only; exact Nat.ne_of_lt (Nat.lt_of_lt_of_le (by have := World.block_lt_of_cell? _ _ hw277_2; first | rwa [add_block] at this | exact this) GW280.out))) _).trans (((cell_far (p := ⟨gb280, _, none⟩) (by first | exact Nat.ne_of_lt (Nat.lt_of_lt_of_le (by have := World.block_lt_of_cell? _ _ hw277_2; first | rwa [add_block] at this | exact this) GW280.out) | (rw [add_block]; exact Nat.ne_of_lt (Nat.lt_of_lt_of_le (by have := World.block_lt_of_cell? _ _ hw277_2; first | rwa [add_block] at this | exact this) GW280.out)) | (show (Addr.add _ _).block ≠ _; rw [add_block]; exact Nat.ne_of_lt (Nat.lt_of_lt_of_le (by have := World.block_lt_of_cell? _ _ hw277_2; first | rwa [add_block] at this | exact this) GW280.out)) | (dsimp only; exact Nat.ne_of_lt (Nat.lt_of_lt_of_le (by have := World.block_lt_of_cell? _ _ hw277_2; first | rwa [add_block] at this | exact this) GW280.out))) _).trans (hHeld.2.2.2.2.2.2.2.2.2.2.2.2.2.2.1)))))))))))), ((cell_far (p := ⟨gb280, _, none⟩) (by first | exact Nat.ne_of_lt (Nat.lt_of_lt_of_le (by have := World.block_lt_of_cell? _ _ hw277_3; first | rwa [add_block] at this | exact this) GW280.out) | (rw [add_block]; exact Nat.ne_of_lt (Nat.lt_of_lt_of_le (by have := World.block_lt_of_cell? _ _ hw277_3; first | rwa [add_block] at this | exact this) GW280.out)) | (show (Addr.add _ _).block ≠ _; rw [add_block]; exact Nat.ne_of_lt (Nat.lt_of_lt_of_le (by have := World.block_lt_of_cell? _ _ hw277_3; first | rwa [add_block] at this | exact this) GW280.out)) | (dsimp only; exact Nat.ne_of_lt (Nat.lt_of_lt_of_le (by have := World.block_lt_of_cell? _ _ hw277_3; first | rwa [add_block] at this | exact this) GW280.out))) _).trans (((cell_far (p := ⟨gb280, _, none⟩) (by first | exact Nat.ne_of_lt (Nat.lt_of_lt_of_le (by have := World.block_lt_of_cell? _ _ hw277_3; first | rwa [add_block] at this | exact this) GW280.out) | (rw [add_block]; exact Nat.ne_of_lt (Nat.lt_of_lt_of_le (by have := World.block_lt_of_cell? _ _ hw277_3; first | rwa [add_block] at this | exact this) GW280.out)) | (show (Addr.add _ _).block ≠ _; rw [add_block]; exact Nat.ne_of_lt (Nat.lt_of_lt_of_le (by have := World.block_lt_of_cell? _ _ hw277_3; first | rwa [add_block] at this | exact this) GW280.out)) | (dsimp only; exact Nat.ne_of_lt (Nat.lt_of_lt_of_le (by have := World.block_lt_of_cell? _ _ hw277_3; first | rwa [add_block] at this | exact this) GW280.out))) _).trans (((cell_far (p := ⟨gb280, _, none⟩) (by first | exact Nat.ne_of_lt (Nat.lt_of_lt_of_le (by have := World.block_lt_of_cell? _ _ hw277_3; first | rwa [add_block] at this | exact this) GW280.out) | (rw [add_block]; exact Nat.ne_of_lt (Nat.lt_of_lt_of_le (by have := World.block_lt_of_cell? _ _ hw277_3; first | rwa [add_block] at this | exact this) GW280.out)) | (show (Addr.add _ _).block ≠ _; rw [add_block]; exact Nat.ne_of_lt (Nat.lt_of_lt_of_le (by have := World.block_lt_of_cell? _ _ hw277_3; first | rwa [add_block] at this | exact this) GW280.out)) | (dsimp only; exact Nat.ne_of_lt (Nat.lt_of_lt_of_le (by have := World.block_lt_of_cell? _ _ hw277_3; first | rwa [add_block] at this | exact this) GW280.out))) _).trans (((cell_far (p := ⟨gb280, _, none⟩) (by first | exact Nat.ne_of_lt (Nat.lt_of_lt_of_le (by have := World.block_lt_of_cell? _ _ hw277_3; first | rwa [add_block] at this | exact this) GW280.out) | (rw [add_block]; exact Nat.ne_of_lt (Nat.lt_of_lt_of_le (by have := World.block_lt_of_cell? _ _ hw277_3; first | rwa [add_block] at this | exact this) GW280.out)) | (show (Addr.add _ _).block ≠ _; rw [add_block]; exact Nat.ne_of_lt (Nat.lt_of_lt_of_le (by have := World.block_lt_of_cell? _ _ hw277_3; first | rwa [add_block] at this | exact this) GW280.out)) | (dsimp only; exact Nat.ne_of_lt (Nat.lt_of_lt_of_le (by have := World.block_lt_of_cell? _ _ hw277_3; first | rwa [add_block] at this | exact this) GW280.out))) _).trans (((cell_far (p := ⟨gb280, _, none⟩) (by first | exact Nat.ne_of_lt (Nat.lt_of_lt_of_le (by have := World.block_lt_of_cell? _ _ hw277_3; first | rwa [add_block] at this | exact this) GW280.out) | (rw [add_block]; exact Nat.ne_of_lt (Nat.lt_of_lt_of_le (by have := World.block_lt_of_cell? _ _ hw277_3; first | rwa [add_block] at this | exact this) GW280.out)) | (show (Addr.add _ _).block ≠ _; rw [add_block]; exact Nat.ne_of_lt (Nat.lt_of_lt_of_le (by have := World.block_lt_of_cell? _ _ hw277_3; first | rwa [add_block] at this | exact this) GW280.out)) | (dsimp only; exact Nat.ne_of_lt (Nat.lt_of_lt_of_le (by have := World.block_lt_of_cell? _ _ hw277_3; first | rwa [add_block] at this | exact this) GW280.out))) _).trans (((cell_far (p := ⟨gb280, _, none⟩) (by first | exact Nat.ne_of_lt (Nat.lt_of_lt_of_le (by have := World.block_lt_of_cell? _ _ hw277_3; first | rwa [add_block] at this | exact this) GW280.out) | (rw [add_block]; exact Nat.ne_of_lt (Nat.lt_of_lt_of_le (by have := World.block_lt_of_cell? _ _ hw277_3; first | rwa [add_block] at this | exact this) GW280.out)) | (show (Addr.add _ _).block ≠ _; rw [add_block]; exact Nat.ne_of_lt (Nat.lt_of_lt_of_le (by have := World.block_lt_of_cell? _ _ hw277_3; first | rwa [add_block] at this | exact this) GW280.out)) | (dsimp only; exact Nat.ne_of_lt (Nat.lt_of_lt_of_le (by have := World.block_lt_of_cell? _ _ hw277_3; first | rwa [add_block] at this | exact this) GW280.out))) _).trans (hHeld.2.2.2.2.2.2.2.2.2.2.2.2.2.2.2.1)))))))))))), ((cell_far (p := ⟨gb280, _, none⟩) (by first | exact Nat.ne_of_lt (Nat.lt_of_lt_of_le (by have := World.block_lt_of_cell? _ _ hw278_0; first | rwa [add_block] at this | exact this) GW280.out) | (rw [add_block]; exact Nat.ne_of_lt (Nat.lt_of_lt_of_le (by have := World.block_lt_of_cell? _ _ hw278_0; first | rwa [add_block] at this | exact this) GW280.out)) | (show (Addr.add _ _).block ≠ _; rw [add_block]; exact Nat.ne_of_lt (Nat.lt_of_lt_of_le (by have := World.block_lt_of_cell? _ _ hw278_0; first | rwa [add_block] at this | exact this) GW280.out)) | (dsimp only; exact Nat.ne_of_lt (Nat.lt_of_lt_of_le (by have := World.block_lt_of_cell? _ _ hw278_0; first | rwa [add_block] at this | exact this) GW280.out))) _).trans (((cell_far (p := ⟨gb280, _, none⟩) (by first | exact Nat.ne_of_lt (Nat.lt_of_lt_of_le (by have := World.block_lt_of_cell? _ _ hw278_0; first | rwa [add_block] at this | exact this) GW280.out) | (rw [add_block]; exact Nat.ne_of_lt (Nat.lt_of_lt_of_le (by have := World.block_lt_of_cell? _ _ hw278_0; first | rwa [add_block] at this | exact this) GW280.out)) | (show (Addr.add _ _).block ≠ _; rw [add_block]; exact Nat.ne_of_lt (Nat.lt_of_lt_of_le (by have := World.block_lt_of_cell? _ _ hw278_0; first | rwa [add_block] at this | exact this) GW280.out)) | (dsimp only; exact Nat.ne_of_lt (Nat.lt_of_lt_of_le (by have := World.block_lt_of_cell? _ _ hw278_0; first | rwa [add_block] at this | exact this) GW280.out))) _).trans (((cell_far (p := ⟨gb280, _, none⟩) (by first | exact Nat.ne_of_lt (Nat.lt_of_lt_of_le (by have := World.block_lt_of_cell? _ _ hw278_0; first | rwa [add_block] at this | exact this) GW280.out) | (rw [add_block]; exact Nat.ne_of_lt (Nat.lt_of_lt_of_le (by have := World.block_lt_of_cell? _ _ hw278_0; first | rwa [add_block] at this | exact this) GW280.out)) | (show (Addr.add _ _).block ≠ _; rw [add_block]; exact Nat.ne_of_lt (Nat.lt_of_lt_of_le (by have := World.block_lt_of_cell? _ _ hw278_0; first | rwa [add_block] at this | exact this) GW280.out)) | (dsimp only; exact Nat.ne_of_lt (Nat.lt_of_lt_of_le (by have := World.block_lt_of_cell? _ _ hw278_0; first | rwa [add_block] at this | exact this) GW280.out))) _).trans (((cell_far (p := ⟨gb280, _, none⟩) (by first | exact Nat.ne_of_lt (Nat.lt_of_lt_of_le (by have := World.block_lt_of_cell? _ _ hw278_0; first | rwa [add_block] at this | exact this) GW280.out) | (rw [add_block]; exact Nat.ne_of_lt (Nat.lt_of_lt_of_le (by have := World.block_lt_of_cell? _ _ hw278_0; first | rwa [add_block] at this | exact this) GW280.out)) | (show (Addr.add _ _).block ≠ _; rw [add_block]; exact Nat.ne_of_lt (Nat.lt_of_lt_of_le (by have := World.block_lt_of_cell? _ _ hw278_0; first | rwa [add_block] at this | exact this) GW280.out)) | (dsimp only; exact Nat.ne_of_lt (Nat.lt_of_lt_of_le (by have := World.block_lt_of_cell? _ _ hw278_0; first | rwa [add_block] at this | exact this) GW280.out))) _).trans (((cell_far (p := ⟨gb280, _, none⟩) (by first | exact Nat.ne_of_lt (Nat.lt_of_lt_of_le (by have := World.block_lt_of_cell? _ _ hw278_0; first | rwa [add_block] at this | exact this) GW280.out) | (rw [add_block]; exact Nat.ne_of_lt (Nat.lt_of_lt_of_le (by have := World.block_lt_of_cell? _ _ hw278_0; first | rwa [add_block] at this | exact this) GW280.out)) | (show (Addr.add _ _).block ≠ _; rw [add_block]; exact Nat.ne_of_lt (Nat.lt_of_lt_of_le (by have := World.block_lt_of_cell? _ _ hw278_0; first | rwa [add_block] at this | exact this) GW280.out)) | (dsimp only; exact Nat.ne_of_lt (Nat.lt_of_lt_of_le (by have := World.block_lt_of_cell? _ _ hw278_0; first | rwa [add_block] at this | exact this) GW280.out))) _).trans (((cell_far (p := ⟨gb280, _, none⟩) (by first | exact Nat.ne_of_lt (Nat.lt_of_lt_of_le (by have := World.block_lt_of_cell? _ _ hw278_0; first | rwa [add_block] at this | exact this) GW280.out) | (rw [add_block]; exact Nat.ne_of_lt (Nat.lt_of_lt_of_le (by have := World.block_lt_of_cell? _ _ hw278_0; first | rwa [add_block] at this | exact this) GW280.out)) | (show (Addr.add _ _).block ≠ _; rw [add_block]; exact Nat.ne_of_lt (Nat.lt_of_lt_of_le (by have := World.block_lt_of_cell? _ _ hw278_0; first | rwa [add_block] at this | exact this) GW280.out)) | (dsimp only; exact Nat.ne_of_lt (Nat.lt_of_lt_of_le (by have := World.block_lt_of_cell? _ _ hw278_0; first | rwa [add_block] at this | exact this) GW280.out))) _).trans (hHeld.2.2.2.2.2.2.2.2.2.2.2.2.2.2.2.2.1)))))))))))), ((cell_far (p := ⟨gb280, _, none⟩) (by first | exact Nat.ne_of_lt (Nat.lt_of_lt_of_le (by have := World.block_lt_of_cell? _ _ hw278_1; first | rwa [add_block] at this | exact this) GW280.out) | (rw [add_block]; exact Nat.ne_of_lt (Nat.lt_of_lt_of_le (by have := World.block_lt_of_cell? _ _ hw278_1; first | rwa [add_block] at this | exact this) GW280.out)) | (show (Addr.add _ _).block ≠ _; rw [add_block]; exact Nat.ne_of_lt (Nat.lt_of_lt_of_le (by have := World.block_lt_of_cell? _ _ hw278_1; first | rwa [add_block] at this | exact this) GW280.out)) | (dsimp only; exact Nat.ne_of_lt (Nat.lt_of_lt_of_le (by have := World.block_lt_of_cell? _ _ hw278_1; first | rwa [add_block] at this | exact this) GW280.out))) _).trans (((cell_far (p := ⟨gb280, _, none⟩) (by first | exact Nat.ne_of_lt (Nat.lt_of_lt_of_le (by have := World.block_lt_of_cell? _ _ hw278_1; first | rwa [add_block] at this | exact this) GW280.out) | (rw [add_block]; exact Nat.ne_of_lt (Nat.lt_of_lt_of_le (by have := World.block_lt_of_cell? _ _ hw278_1; first | rwa [add_block] at this | exact this) GW280.out)) | (show (Addr.add _ _).block ≠ _; rw [add_block]; exact Nat.ne_of_lt (Nat.lt_of_lt_of_le (by have := World.block_lt_of_cell? _ _ hw278_1; first | rwa [add_block] at this | exact this) GW280.out)) | (dsimp only; exact Nat.ne_of_lt (Nat.lt_of_lt_of_le (by have := World.block_lt_of_cell? _ _ hw278_1; first | rwa [add_block] at this | exact this) GW280.out))) _).trans (((cell_far (p := ⟨gb280, _, none⟩) (by first | exact Nat.ne_of_lt (Nat.lt_of_lt_of_le (by have := World.block_lt_of_cell? _ _ hw278_1; first | rwa [add_block] at this | exact this) GW280.out) | (rw [add_block]; exact Nat.ne_of_lt (Nat.lt_of_lt_of_le (by have := World.block_lt_of_cell? _ _ hw278_1; first | rwa [add_block] at this | exact this) GW280.out)) | (show (Addr.add _ _).block ≠ _; rw [add_block]; exact Nat.ne_of_lt (Nat.lt_of_lt_of_le (by have := World.block_lt_of_cell? _ _ hw278_1; first | rwa [add_block] at this | exact this) GW280.out)) | (dsimp only; exact Nat.ne_of_lt (Nat.lt_of_lt_of_le (by have := World.block_lt_of_cell? _ _ hw278_1; first | rwa [add_block] at this | exact this) GW280.out))) _).trans (((cell_far (p := ⟨gb280, _, none⟩) (by first | exact Nat.ne_of_lt (Nat.lt_of_lt_of_le (by have := World.block_lt_of_cell? _ _ hw278_1; first | rwa [add_block] at this | exact this) GW280.out) | (rw [add_block]; exact Nat.ne_of_lt (Nat.lt_of_lt_of_le (by have := World.block_lt_of_cell? _ _ hw278_1; first | rwa [add_block] at this | exact this) GW280.out)) | (show (Addr.add _ _).block ≠ _; rw [add_block]; exact Nat.ne_of_lt (Nat.lt_of_lt_of_le (by have := World.block_lt_of_cell? _ _ hw278_1; first | rwa [add_block] at this | exact this) GW280.out)) | (dsimp only; exact Nat.ne_of_lt (Nat.lt_of_lt_of_le (by have := World.block_lt_of_cell? _ _ hw278_1; first | rwa [add_block] at this | exact this) GW280.out))) _).trans (((cell_far (p := ⟨gb280, _, none⟩) (by first | exact Nat.ne_of_lt (Nat.lt_of_lt_of_le (by have := World.block_lt_of_cell? _ _ hw278_1; first | rwa [add_block] at this | exact this) GW280.out) | (rw [add_block]; exact Nat.ne_of_lt (Nat.lt_of_lt_of_le (by have := World.block_lt_of_cell? _ _ hw278_1; first | rwa [add_block] at this | exact this) GW280.out)) | (show (Addr.add _ _).block ≠ _; rw [add_block]; exact Nat.ne_of_lt (Nat.lt_of_lt_of_le (by have := World.block_lt_of_cell? _ _ hw278_1; first | rwa [add_block] at this | exact this) GW280.out)) | (dsimp only; exact Nat.ne_of_lt (Nat.lt_of_lt_of_le (by have := World.block_lt_of_cell? _ _ hw278_1; first | rwa [add_block] at this | exact this) GW280.out))) _).trans (((cell_far (p := ⟨gb280, _, none⟩) (by first | exact Nat.ne_of_lt (Nat.lt_of_lt_of_le (by have := World.block_lt_of_cell? _ _ hw278_1; first | rwa [add_block] at this | exact this) GW280.out) | (rw [add_block]; exact Nat.ne_of_lt (Nat.lt_of_lt_of_le (by have := World.block_lt_of_cell? _ _ hw278_1; first | rwa [add_block] at this | exact this) GW280.out)) | (show (Addr.add _ _).block ≠ _; rw [add_block]; exact Nat.ne_of_lt (Nat.lt_of_lt_of_le (by have := World.block_lt_of_cell? _ _ hw278_1; first | rwa [add_block] at this | exact this) GW280.out)) | (dsimp only; exact Nat.ne_of_lt (Nat.lt_of_lt_of_le (by have := World.block_lt_of_cell? _ _ hw278_1; first | rwa [add_block] at this | exact this) GW280.out))) _).trans (hHeld.2.2.2.2.2.2.2.2.2.2.2.2.2.2.2.2.2.1)))))))))))), ((cell_far (p := ⟨gb280, _, none⟩) (by first | exact Nat.ne_of_lt (Nat.lt_of_lt_of_le (by have := World.block_lt_of_cell? _ _ hw278_2; first | rwa [add_block] at this | exact this) GW280.out) | (rw [add_block]; exact Nat.ne_of_lt (Nat.lt_of_lt_of_le (by have := World.block_lt_of_cell? _ _ hw278_2; first | rwa [add_block] at this | exact this) GW280.out)) | (show (Addr.add _ _).block ≠ _; rw [add_block]; exact Nat.ne_of_lt (Nat.lt_of_lt_of_le (by have := World.block_lt_of_cell? _ _ hw278_2; first | rwa [add_block] at this | exact this) GW280.out)) | (dsimp only; exact Nat.ne_of_lt (Nat.lt_of_lt_of_le (by have := World.block_lt_of_cell? _ _ hw278_2; first | rwa [add_block] at this | exact this) GW280.out))) _).trans (((cell_far (p := ⟨gb280, _, none⟩) (by first | exact Nat.ne_of_lt (Nat.lt_of_lt_of_le (by have := World.block_lt_of_cell? _ _ hw278_2; first | rwa [add_block] at this | exact this) GW280.out) | (rw [add_block]; exact Nat.ne_of_lt (Nat.lt_of_lt_of_le (by have := World.block_lt_of_cell? _ _ hw278_2; first | rwa [add_block] at this | exact this) GW280.out)) | (show (Addr.add _ _).block ≠ _; rw [add_block]; exact Nat.ne_of_lt (Nat.lt_of_lt_of_le (by have := World.block_lt_of_cell? _ _ hw278_2; first | rwa [add_block] at this | exact this) GW280.out)) | (dsimp only; exact Nat.ne_of_lt (Nat.lt_of_lt_of_le (by have := World.block_lt_of_cell? _ _ hw278_2; first | rwa [add_block] at this | exact this) GW280.out))) _).trans (((cell_far (p := ⟨gb280, _, none⟩) (by first | exact Nat.ne_of_lt (Nat.lt_of_lt_of_le (by have := World.block_lt_of_cell? _ _ hw278_2; first | rwa [add_block] at this | exact this) GW280.out) | (rw [add_block]; exact Nat.ne_of_lt (Nat.lt_of_lt_of_le (by have := World.block_lt_of_cell? _ _ hw278_2; first | rwa [add_block] at this | exact this) GW280.out)) | (show (Addr.add _ _).block ≠ _; rw [add_block]; exact Nat.ne_of_lt (Nat.lt_of_lt_of_le (by have := World.block_lt_of_cell? _ _ hw278_2; first | rwa [add_block] at this | exact this) GW280.out)) | (dsimp only; exact Nat.ne_of_lt (Nat.lt_of_lt_of_le (by have := World.block_lt_of_cell? _ _ hw278_2; first | rwa [add_block] at this | exact this) GW280.out))) _).trans (((cell_far (p := ⟨gb280, _, none⟩) (by first | exact Nat.ne_of_lt (Nat.lt_of_lt_of_le (by have := World.block_lt_of_cell? _ _ hw278_2; first | rwa [add_block] at this | exact this) GW280.out) | (rw [add_block]; exact Nat.ne_of_lt (Nat.lt_of_lt_of_le (by have := World.block_lt_of_cell? _ _ hw278_2; first | rwa [add_block] at this | exact this) GW280.out)) | (show (Addr.add _ _).block ≠ _; rw [add_block]; exact Nat.ne_of_lt (Nat.lt_of_lt_of_le (by have := World.block_lt_of_cell? _ _ hw278_2; first | rwa [add_block] at this | exact this) GW280.out)) | (dsimp only; exact Nat.ne_of_lt (Nat.lt_of_lt_of_le (by have := World.block_lt_of_cell? _ _ hw278_2; first | rwa [add_block] at this | exact this) GW280.out))) _).trans (((cell_far (p := ⟨gb280, _, none⟩) (by first | exact Nat.ne_of_lt (Nat.lt_of_lt_of_le (by have := World.block_lt_of_cell? _ _ hw278_2; first | rwa [add_block] at this | exact this) GW280.out) | (rw [add_block]; exact Nat.ne_of_lt (Nat.lt_of_lt_of_le (by have := World.block_lt_of_cell? _ _ hw278_2; first | rwa [add_block] at this | exact this) GW280.out)) | (show (Addr.add _ _).block ≠ _; rw [add_block]; exact Nat.ne_of_lt (Nat.lt_of_lt_of_le (by have := World.block_lt_of_cell? _ _ hw278_2; first | rwa [add_block] at this | exact this) GW280.out)) | (dsimp only; exact Nat.ne_of_lt (Nat.lt_of_lt_of_le (by have := World.block_lt_of_cell? _ _ hw278_2; first | rwa [add_block] at this | exact this) GW280.out))) _).trans (((cell_far (p := ⟨gb280, _, none⟩) (by first | exact Nat.ne_of_lt (Nat.lt_of_lt_of_le (by have := World.block_lt_of_cell? _ _ hw278_2; first | rwa [add_block] at this | exact this) GW280.out) | (rw [add_block]; exact Nat.ne_of_lt (Nat.lt_of_lt_of_le (by have := World.block_lt_of_cell? _ _ hw278_2; first | rwa [add_block] at this | exact this) GW280.out)) | (show (Addr.add _ _).block ≠ _; rw [add_block]; exact Nat.ne_of_lt (Nat.lt_of_lt_of_le (by have := World.block_lt_of_cell? _ _ hw278_2; first | rwa [add_block] at this | exact this) GW280.out)) | (dsimp only; exact Nat.ne_of_lt (Nat.lt_of_lt_of_le (by have := World.block_lt_of_cell? _ _ hw278_2; first | rwa [add_block] at this | exact this) GW280.out))) _).trans (hHeld.2.2.2.2.2.2.2.2.2.2.2.2.2.2.2.2.2.2.1)))))))))))), ((cell_far (p := ⟨gb280, _, none⟩) (by first | exact Nat.ne_of_lt (Nat.lt_of_lt_of_le (by have := World.block_lt_of_cell? _ _ hw278_3; first | rwa [add_block] at this | exact this) GW280.out) | (rw [add_block]; exact Nat.ne_of_lt (Nat.lt_of_lt_of_le (by have := World.block_lt_of_cell? _ _ hw278_3; first | rwa [add_block] at this | exact this) GW280.out)) | (show (Addr.add _ _).block ≠ _; rw [add_block]; exact Nat.ne_of_lt (Nat.lt_of_lt_of_le (by have := World.block_lt_of_cell? _ _ hw278_3; first | rwa [add_block] at this | exact this) GW280.out)) | (dsimp only; exact Nat.ne_of_lt (Nat.lt_of_lt_of_le (by have := World.block_lt_of_cell? _ _ hw278_3; first | rwa [add_block] at this | exact this) GW280.out))) _).trans (((cell_far (p := ⟨gb280, _, none⟩) (by first | exact Nat.ne_of_lt (Nat.lt_of_lt_of_le (by have := World.block_lt_of_cell? _ _ hw278_3; first | rwa [add_block] at this | exact this) GW280.out) | (rw [add_block]; exact Nat.ne_of_lt (Nat.lt_of_lt_of_le (by have := World.block_lt_of_cell? _ _ hw278_3; first | rwa [add_block] at this | exact this) GW280.out)) | (show (Addr.add _ _).block ≠ _; rw [add_block]; exact Nat.ne_of_lt (Nat.lt_of_lt_of_le (by have := World.block_lt_of_cell? _ _ hw278_3; first | rwa [add_block] at this | exact this) GW280.out)) | (dsimp only; exact Nat.ne_of_lt (Nat.lt_of_lt_of_le (by have := World.block_lt_of_cell? _ _ hw278_3; first | rwa [add_block] at this | exact this) GW280.out))) _).trans (((cell_far (p := ⟨gb280, _, none⟩) (by first | exact Nat.ne_of_lt (Nat.lt_of_lt_of_le (by have := World.block_lt_of_cell? _ _ hw278_3; first | rwa [add_block] at this | exact this) GW280.out) | (rw [add_block]; exact Nat.ne_of_lt (Nat.lt_of_lt_of_le (by have := World.block_lt_of_cell? _ _ hw278_3; first | rwa [add_block] at this | exact this) GW280.out)) | (show (Addr.add _ _).block ≠ _; rw [add_block]; exact Nat.ne_of_lt (Nat.lt_of_lt_of_le (by have := World.block_lt_of_cell? _ _ hw278_3; first | rwa [add_block] at this | exact this) GW280.out)) | (dsimp only; exact Nat.ne_of_lt (Nat.lt_of_lt_of_le (by have := World.block_lt_of_cell? _ _ hw278_3; first | rwa [add_block] at this | exact this) GW280.out))) _).trans (((cell_far (p := ⟨gb280, _, none⟩) (by first | exact Nat.ne_of_lt (Nat.lt_of_lt_of_le (by have := World.block_lt_of_cell? _ _ hw278_3; first | rwa [add_block] at this | exact this) GW280.out) | (rw [add_block]; exact Nat.ne_of_lt (Nat.lt_of_lt_of_le (by have := World.block_lt_of_cell? _ _ hw278_3; first | rwa [add_block] at this | exact this) GW280.out)) | (show (Addr.add _ _).block ≠ _; rw [add_block]; exact Nat.ne_of_lt (Nat.lt_of_lt_of_le (by have := World.block_lt_of_cell? _ _ hw278_3; first | rwa [add_block] at this | exact this) GW280.out)) | (dsimp only; exact Nat.ne_of_lt (Nat.lt_of_lt_of_le (by have := World.block_lt_of_cell? _ _ hw278_3; first | rwa [add_block] at this | exact this) GW280.out))) _).trans (((cell_far (p := ⟨gb280, _, none⟩) (by first | exact Nat.ne_of_lt (Nat.lt_of_lt_of_le (by have := World.block_lt_of_cell? _ _ hw278_3; first | rwa [add_block] at this | exact this) GW280.out) | (rw [add_block]; exact Nat.ne_of_lt (Nat.lt_of_lt_of_le (by have := World.block_lt_of_cell? _ _ hw278_3; first | rwa [add_block] at this | exact this) GW280.out)) | (show (Addr.add _ _).block ≠ _; rw [add_block]; exact Nat.ne_of_lt (Nat.lt_of_lt_of_le (by have := World.block_lt_of_cell? _ _ hw278_3; first | rwa [add_block] at this | exact this) GW280.out)) | (dsimp only; exact Nat.ne_of_lt (Nat.lt_of_lt_of_le (by have := World.block_lt_of_cell? _ _ hw278_3; first | rwa [add_block] at this | exact this) GW280.out))) _).trans (((cell_far (p := ⟨gb280, _, none⟩) (by first | exact Nat.ne_of_lt (Nat.lt_of_lt_of_le (by have := World.block_lt_of_cell? _ _ hw278_3; first | rwa [add_block] at this | exact this) GW280.out) | (rw [add_block]; exact Nat.ne_of_lt (Nat.lt_of_lt_of_le (by have := World.block_lt_of_cell? _ _ hw278_3; first | rwa [add_block] at this | exact this) GW280.out)) | (show (Addr.add _ _).block ≠ _; rw [add_block]; exact Nat.ne_of_lt (Nat.lt_of_lt_of_le (by have := World.block_lt_of_cell? _ _ hw278_3; first | rwa [add_block] at this | exact this) GW280.out)) | (dsimp only; exact Nat.ne_of_lt (Nat.lt_of_lt_of_le (by have := World.block_lt_of_cell? _ _ hw278_3; first | rwa [add_block] at this | exact this) GW280.out))) _).trans (hHeld.2.2.2.2.2.2.2.2.2.2.2.2.2.2.2.2.2.2.2.1)))))))))))), ((cell_far (p := ⟨gb280, _, none⟩) (by first | exact Nat.ne_of_lt (Nat.lt_of_lt_of_le (by have := World.block_lt_of_cell? _ _ hw279_0; first | rwa [add_block] at this | exact this) GW280.out) | (rw [add_block]; exact Nat.ne_of_lt (Nat.lt_of_lt_of_le (by have := World.block_lt_of_cell? _ _ hw279_0; first | rwa [add_block] at this | exact this) GW280.out)) | (show (Addr.add _ _).block ≠ _; rw [add_block]; exact Nat.ne_of_lt (Nat.lt_of_lt_of_le (by have := World.block_lt_of_cell? _ _ hw279_0; first | rwa [add_block] at this | exact this) GW280.out)) | (dsimp only; exact Nat.ne_of_lt (Nat.lt_of_lt_of_le (by have := World.block_lt_of_cell? _ _ hw279_0; first | rwa [add_block] at this | exact this) GW280.out))) _).trans (((cell_far (p := ⟨gb280, _, none⟩) (by first | exact Nat.ne_of_lt (Nat.lt_of_lt_of_le (by have := World.block_lt_of_cell? _ _ hw279_0; first | rwa [add_block] at this | exact this) GW280.out) | (rw [add_block]; exact Nat.ne_of_lt (Nat.lt_of_lt_of_le (by have := World.block_lt_of_cell? _ _ hw279_0; first | rwa [add_block] at this | exact this) GW280.out)) | (show (Addr.add _ _).block ≠ _; rw [add_block]; exact Nat.ne_of_lt (Nat.lt_of_lt_of_le (by have := World.block_lt_of_cell? _ _ hw279_0; first | rwa [add_block] at this | exact this) GW280.out)) | (dsimp only; exact Nat.ne_of_lt (Nat.lt_of_lt_of_le (by have := World.block_lt_of_cell? _ _ hw279_0; first | rwa [add_block] at this | exact this) GW280.out))) _).trans (((cell_far (p := ⟨gb280, _, none⟩) (by first | exact Nat.ne_of_lt (Nat.lt_of_lt_of_le (by have := World.block_lt_of_cell? _ _ hw279_0; first | rwa [add_block] at this | exact this) GW280.out) | (rw [add_block]; exact Nat.ne_of_lt (Nat.lt_of_lt_of_le (by have := World.block_lt_of_cell? _ _ hw279_0; first | rwa [add_block] at this | exact this) GW280.out)) | (show (Addr.add _ _).block ≠ _; rw [add_block]; exact Nat.ne_of_lt (Nat.lt_of_lt_of_le (by have := World.block_lt_of_cell? _ _ hw279_0; first | rwa [add_block] at this | exact this) GW280.out)) | (dsimp only; exact Nat.ne_of_lt (Nat.lt_of_lt_of_le (by have := World.block_lt_of_cell? _ _ hw279_0; first | rwa [add_block] at this | exact this) GW280.out))) _).trans (((cell_far (p := ⟨gb280, _, none⟩) (by first | exact Nat.ne_of_lt (Nat.lt_of_lt_of_le (by have := World.block_lt_of_cell? _ _ hw279_0; first | rwa [add_block] at this | exact this) GW280.out) | (rw [add_block]; exact Nat.ne_of_lt (Nat.lt_of_lt_of_le (by have := World.block_lt_of_cell? _ _ hw279_0; first | rwa [add_block] at this | exact this) GW280.out)) | (show (Addr.add _ _).block ≠ _; rw [add_block]; exact Nat.ne_of_lt (Nat.lt_of_lt_of_le (by have := World.block_lt_of_cell? _ _ hw279_0; first | rwa [add_block] at this | exact this) GW280.out)) | (dsimp only; exact Nat.ne_of_lt (Nat.lt_of_lt_of_le (by have := World.block_lt_of_cell? _ _ hw279_0; first | rwa [add_block] at this | exact this) GW280.out))) _).trans (((cell_far (p := ⟨gb280, _, none⟩) (by first | exact Nat.ne_of_lt (Nat.lt_of_lt_of_le (by have := World.block_lt_of_cell? _ _ hw279_0; first | rwa [add_block] at this | exact this) GW280.out) | (rw [add_block]; exact Nat.ne_of_lt (Nat.lt_of_lt_of_le (by have := World.block_lt_of_cell? _ _ hw279_0; first | rwa [add_block] at this | exact this) GW280.out)) | (show (Addr.add _ _).block ≠ _; rw [add_block]; exact Nat.ne_of_lt (Nat.lt_of_lt_of_le (by have := World.block_lt_of_cell? _ _ hw279_0; first | rwa [add_block] at this | exact this) GW280.out)) | (dsimp only; exact Nat.ne_of_lt (Nat.lt_of_lt_of_le (by have := World.block_lt_of_cell? _ _ hw279_0; first | rwa [add_block] at this | exact this) GW280.out))) _).trans (((cell_far (p := ⟨gb280, _, none⟩) (by first | exact Nat.ne_of_lt (Nat.lt_of_lt_of_le (by have := World.block_lt_of_cell? _ _ hw279_0; first | rwa [add_block] at this | exact this) GW280.out) | (rw [add_block]; exact Nat.ne_of_lt (Nat.lt_of_lt_of_le (by have := World.block_lt_of_cell? _ _ hw279_0; first | rwa [add_block] at this | exact this) GW280.out)) | (show (Addr.add _ _).block ≠ _; rw [add_block]; exact Nat.ne_of_lt (Nat.lt_of_lt_of_le (by have := World.block_lt_of_cell? _ _ hw279_0; first | rwa [add_block] at this | exact this) GW280.out)) | (dsimp only; exact Nat.ne_of_lt (Nat.lt_of_lt_of_le (by have := World.block_lt_of_cell? _ _ hw279_0; first | rwa [add_block] at this | exact this) GW280.out))) _).trans (hHeld.2.2.2.2.2.2.2.2.2.2.2.2.2.2.2.2.2.2.2.2.1)))))))))))), ((cell_far (p := ⟨gb280, _, none⟩) (by first | exact Nat.ne_of_lt (Nat.lt_of_lt_of_le (by have := World.block_lt_of_cell? _ _ hw279_1; first | rwa [add_block] at this | exact this) GW280.out) | (rw [add_block]; exact Nat.ne_of_lt (Nat.lt_of_lt_of_le (by have := World.block_lt_of_cell? _ _ hw279_1; first | rwa [add_block] at this | exact this) GW280.out)) | (show (Addr.add _ _).block ≠ _; rw [add_block]; exact Nat.ne_of_lt (Nat.lt_of_lt_of_le (by have := World.block_lt_of_cell? _ _ hw279_1; first | rwa [add_block] at this | exact this) GW280.out)) | (dsimp only; exact Nat.ne_of_lt (Nat.lt_of_lt_of_le (by have := World.block_lt_of_cell? _ _ hw279_1; first | rwa [add_block] at this | exact this) GW280.out))) _).trans (((cell_far (p := ⟨gb280, _, none⟩) (by first | exact Nat.ne_of_lt (Nat.lt_of_lt_of_le (by have := World.block_lt_of_cell? _ _ hw279_1; first | rwa [add_block] at this | exact this) GW280.out) | (rw [add_block]; exact Nat.ne_of_lt (Nat.lt_of_lt_of_le (by have := World.block_lt_of_cell? _ _ hw279_1; first | rwa [add_block] at this | exact this) GW280.out)) | (show (Addr.add _ _).block ≠ _; rw [add_block]; exact Nat.ne_of_lt (Nat.lt_of_lt_of_le (by have := World.block_lt_of_cell? _ _ hw279_1; first | rwa [add_block] at this | exact this) GW280.out)) | (dsimp only; exact Nat.ne_of_lt (Nat.lt_of_lt_of_le (by have := World.block_lt_of_cell? _ _ hw279_1; first | rwa [add_block] at this | exact this) GW280.out))) _).trans (((cell_far (p := ⟨gb280, _, none⟩) (by first | exact Nat.ne_of_lt (Nat.lt_of_lt_of_le (by have := World.block_lt_of_cell? _ _ hw279_1; first | rwa [add_block] at this | exact this) GW280.out) | (rw [add_block]; exact Nat.ne_of_lt (Nat.lt_of_lt_of_le (by have := World.block_lt_of_cell? _ _ hw279_1; first | rwa [add_block] at this | exact this) GW280.out)) | (show (Addr.add _ _).block ≠ _; rw [add_block]; exact Nat.ne_of_lt (Nat.lt_of_lt_of_le (by have := World.block_lt_of_cell? _ _ hw279_1; first | rwa [add_block] at this | exact this) GW280.out)) | (dsimp only; exact Nat.ne_of_lt (Nat.lt_of_lt_of_le (by have := World.block_lt_of_cell? _ _ hw279_1; first | rwa [add_block] at this | exact this) GW280.out))) _).trans (((cell_far (p := ⟨gb280, _, none⟩) (by first | exact Nat.ne_of_lt (Nat.lt_of_lt_of_le (by have := World.block_lt_of_cell? _ _ hw279_1; first | rwa [add_block] at this | exact this) GW280.out) | (rw [add_block]; exact Nat.ne_of_lt (Nat.lt_of_lt_of_le (by have := World.block_lt_of_cell? _ _ hw279_1; first | rwa [add_block] at this | exact this) GW280.out)) | (show (Addr.add _ _).block ≠ _; rw [add_block]; exact Nat.ne_of_lt (Nat.lt_of_lt_of_le (by have := World.block_lt_of_cell? _ _ hw279_1; first | rwa [add_block] at this | exact this) GW280.out)) | (dsimp only; exact Nat.ne_of_lt (Nat.lt_of_lt_of_le (by have := World.block_lt_of_cell? _ _ hw279_1; first | rwa [add_block] at this | exact this) GW280.out))) _).trans (((cell_far (p := ⟨gb280, _, none⟩) (by first | exact Nat.ne_of_lt (Nat.lt_of_lt_of_le (by have := World.block_lt_of_cell? _ _ hw279_1; first | rwa [add_block] at this | exact this) GW280.out) | (rw [add_block]; exact Nat.ne_of_lt (Nat.lt_of_lt_of_le (by have := World.block_lt_of_cell? _ _ hw279_1; first | rwa [add_block] at this | exact this) GW280.out)) | (show (Addr.add _ _).block ≠ _; rw [add_block]; exact Nat.ne_of_lt (Nat.lt_of_lt_of_le (by have := World.block_lt_of_cell? _ _ hw279_1; first | rwa [add_block] at this | exact this) GW280.out)) | (dsimp only; exact Nat.ne_of_lt (Nat.lt_of_lt_of_le (by have := World.block_lt_of_cell? _ _ hw279_1; first | rwa [add_block] at this | exact this) GW280.out))) _).trans (((cell_far (p := ⟨gb280, _, none⟩) (by first | exact Nat.ne_of_lt (Nat.lt_of_lt_of_le (by have := World.block_lt_of_cell? _ _ hw279_1; first | rwa [add_block] at this | exact this) GW280.out) | (rw [add_block]; exact Nat.ne_of_lt (Nat.lt_of_lt_of_le (by have := World.block_lt_of_cell? _ _ hw279_1; first | rwa [add_block] at this | exact this) GW280.out)) | (show (Addr.add _ _).block ≠ _; rw [add_block]; exact Nat.ne_of_lt (Nat.lt_of_lt_of_le (by have := World.block_lt_of_cell? _ _ hw279_1; first | rwa [add_block] at this | exact this) GW280.out)) | (dsimp only; exact Nat.ne_of_lt (Nat.lt_of_lt_of_le (by have := World.block_lt_of_cell? _ _ hw279_1; first | rwa [add_block] at this | exact this) GW280.out))) _).trans (hHeld.2.2.2.2.2.2.2.2.2.2.2.2.2.2.2.2.2.2.2.2.2.1)))))))))))), ((cell_far (p := ⟨gb280, _, none⟩) (by first | exact Nat.ne_of_lt (Nat.lt_of_lt_of_le (by have := World.block_lt_of_cell? _ _ hw279_2; first | rwa [add_block] at this | exact this) GW280.out) | (rw [add_block]; exact Nat.ne_of_lt (Nat.lt_of_lt_of_le (by have := World.block_lt_of_cell? _ _ hw279_2; first | rwa [add_block] at this | exact this) GW280.out)) | (show (Addr.add _ _).block ≠ _; rw [add_block]; exact Nat.ne_of_lt (Nat.lt_of_lt_of_le (by have := World.block_lt_of_cell? _ _ hw279_2; first | rwa [add_block] at this | exact this) GW280.out)) | (dsimp only; exact Nat.ne_of_lt (Nat.lt_of_lt_of_le (by have := World.block_lt_of_cell? _ _ hw279_2; first | rwa [add_block] at this | exact this) GW280.out))) _).trans (((cell_far (p := ⟨gb280, _, none⟩) (by first | exact Nat.ne_of_lt (Nat.lt_of_lt_of_le (by have := World.block_lt_of_cell? _ _ hw279_2; first | rwa [add_block] at this | exact this) GW280.out) | (rw [add_block]; exact Nat.ne_of_lt (Nat.lt_of_lt_of_le (by have := World.block_lt_of_cell? _ _ hw279_2; first | rwa [add_block] at this | exact this) GW280.out)) | (show (Addr.add _ _).block ≠ _; rw [add_block]; exact Nat.ne_of_lt (Nat.lt_of_lt_of_le (by have := World.block_lt_of_cell? _ _ hw279_2; first | rwa [add_block] at this | exact this) GW280.out)) | (dsimp only; exact Nat.ne_of_lt (Nat.lt_of_lt_of_le (by have := World.block_lt_of_cell? _ _ hw279_2; first | rwa [add_block] at this | exact this) GW280.out))) _).trans (((cell_far (p := ⟨gb280, _, none⟩) (by first | exact Nat.ne_of_lt (Nat.lt_of_lt_of_le (by have := World.block_lt_of_cell? _ _ hw279_2; first | rwa [add_block] at this | exact this) GW280.out) | (rw [add_block]; exact Nat.ne_of_lt (Nat.lt_of_lt_of_le (by have := World.block_lt_of_cell? _ _ hw279_2; first | rwa [add_block] at this | exact this) GW280.out)) | (show (Addr.add _ _).block ≠ _; rw [add_block]; exact Nat.ne_of_lt (Nat.lt_of_lt_of_le (by have := World.block_lt_of_cell? _ _ hw279_2; first | rwa [add_block] at this | exact this) GW280.out)) | (dsimp only; exact Nat.ne_of_lt (Nat.lt_of_lt_of_le (by have := World.block_lt_of_cell? _ _ hw279_2; first | rwa [add_block] at this | exact this) GW280.out))) _).trans (((cell_far (p := ⟨gb280, _, none⟩) (by first | exact Nat.ne_of_lt (Nat.lt_of_lt_of_le (by have := World.block_lt_of_cell? _ _ hw279_2; first | rwa [add_block] at this | exact this) GW280.out) | (rw [add_block]; exact Nat.ne_of_lt (Nat.lt_of_lt_of_le (by have := World.block_lt_of_cell? _ _ hw279_2; first | rwa [add_block] at this | exact this) GW280.out)) | (show (Addr.add _ _).block ≠ _; rw [add_block]; exact Nat.ne_of_lt (Nat.lt_of_lt_of_le (by have := World.block_lt_of_cell? _ _ hw279_2; first | rwa [add_block] at this | exact this) GW280.out)) | (dsimp only; exact Nat.ne_of_lt (Nat.lt_of_lt_of_le (by have := World.block_lt_of_cell? _ _ hw279_2; first | rwa [add_block] at this | exact this) GW280.out))) _).trans (((cell_far (p := ⟨gb280, _, none⟩) (by first | exact Nat.ne_of_lt (Nat.lt_of_lt_of_le (by have := World.block_lt_of_cell? _ _ hw279_2; first | rwa [add_block] at this | exact this) GW280.out) | (rw [add_block]; exact Nat.ne_of_lt (Nat.lt_of_lt_of_le (by have := World.block_lt_of_cell? _ _ hw279_2; first | rwa [add_block] at this | exact this) GW280.out)) | (show (Addr.add _ _).block ≠ _; rw [add_block]; exact Nat.ne_of_lt (Nat.lt_of_lt_of_le (by have := World.block_lt_of_cell? _ _ hw279_2; first | rwa [add_block] at this | exact this) GW280.out)) | (dsimp only; exact Nat.ne_of_lt (Nat.lt_of_lt_of_le (by have := World.block_lt_of_cell? _ _ hw279_2; first | rwa [add_block] at this | exact this) GW280.out))) _).trans (((cell_far (p := ⟨gb280, _, none⟩) (by first | exact Nat.ne_of_lt (Nat.lt_of_lt_of_le (by have := World.block_lt_of_cell? _ _ hw279_2; first | rwa [add_block] at this | exact this) GW280.out) | (rw [add_block]; exact Nat.ne_of_lt (Nat.lt_of_lt_of_le (by have := World.block_lt_of_cell? _ _ hw279_2; first | rwa [add_block] at this | exact this) GW280.out)) | (show (Addr.add _ _).block ≠ _; rw [add_block]; exact Nat.ne_of_lt (Nat.lt_of_lt_of_le (by have := World.block_lt_of_cell? _ _ hw279_2; first | rwa [add_block] at this | exact this) GW280.out)) | (dsimp only; exact Nat.ne_of_lt (Nat.lt_of_lt_of_le (by have := World.block_lt_of_cell? _ _ hw279_2; first | rwa [add_block] at this | exact this) GW280.out))) _).trans (hHeld.2.2.2.2.2.2.2.2.2.2.2.2.2.2.2.2.2.2.2.2.2.2.1)))))))))))), ((cell_far (p := ⟨gb280, _, none⟩) (by first | exact Nat.ne_of_lt (Nat.lt_of_lt_of_le (by have := World.block_lt_of_cell? _ _ hw279_3; first | rwa [add_block] at this | exact this) GW280.out) | (rw [add_block]; exact Nat.ne_of_lt (Nat.lt_of_lt_of_le (by have := World.block_lt_of_cell? _ _ hw279_3; first | rwa [add_block] at this | exact this) GW280.out)) | (show (Addr.add _ _).block ≠ _; rw [add_block]; exact Nat.ne_of_lt (Nat.lt_of_lt_of_le (by have := World.block_lt_of_cell? _ _ hw279_3; first | rwa [add_block] at this | exact this) GW280.out)) | (dsimp only; exact Nat.ne_of_lt (Nat.lt_of_lt_of_le (by have := World.block_lt_of_cell? _ _ hw279_3; first | rwa [add_block] at this | exact this) GW280.out))) _).trans (((cell_far (p := ⟨gb280, _, none⟩) (by first | exact Nat.ne_of_lt (Nat.lt_of_lt_of_le (by have := World.block_lt_of_cell? _ _ hw279_3; first | rwa [add_block] at this | exact this) GW280.out) | (rw [add_block]; exact Nat.ne_of_lt (Nat.lt_of_lt_of_le (by have := World.block_lt_of_cell? _ _ hw279_3; first | rwa [add_block] at this | exact this) GW280.out)) | (show (Addr.add _ _).block ≠ _; rw [add_block]; exact Nat.ne_of_lt (Nat.lt_of_lt_of_le (by have := World.block_lt_of_cell? _ _ hw279_3; first | rwa [add_block] at this | exact this) GW280.out)) | (dsimp only; exact Nat.ne_of_lt (Nat.lt_of_lt_of_le (by have := World.block_lt_of_cell? _ _ hw279_3; first | rwa [add_block] at this | exact this) GW280.out))) _).trans (((cell_far (p := ⟨gb280, _, none⟩) (by first | exact Nat.ne_of_lt (Nat.lt_of_lt_of_le (by have := World.block_lt_of_cell? _ _ hw279_3; first | rwa [add_block] at this | exact this) GW280.out) | (rw [add_block]; exact Nat.ne_of_lt (Nat.lt_of_lt_of_le (by have := World.block_lt_of_cell? _ _ hw279_3; first | rwa [add_block] at this | exact this) GW280.out)) | (show (Addr.add _ _).block ≠ _; rw [add_block]; exact Nat.ne_of_lt (Nat.lt_of_lt_of_le (by have := World.block_lt_of_cell? _ _ hw279_3; first | rwa [add_block] at this | exact this) GW280.out)) | (dsimp only; exact Nat.ne_of_lt (Nat.lt_of_lt_of_le (by have := World.block_lt_of_cell? _ _ hw279_3; first | rwa [add_block] at this | exact this) GW280.out))) _).trans (((cell_far (p := ⟨gb280, _, none⟩) (by first | exact Nat.ne_of_lt (Nat.lt_of_lt_of_le (by have := World.block_lt_of_cell? _ _ hw279_3; first | rwa [add_block] at this | exact this) GW280.out) | (rw [add_block]; exact Nat.ne_of_lt (Nat.lt_of_lt_of_le (by have := World.block_lt_of_cell? _ _ hw279_3; first | rwa [add_block] at this | exact this) GW280.out)) | (show (Addr.add _ _).block ≠ _; rw [add_block]; exact Nat.ne_of_lt (Nat.lt_of_lt_of_le (by have := World.block_lt_of_cell? _ _ hw279_3; first | rwa [add_block] at this | exact this) GW280.out)) | (dsimp only; exact Nat.ne_of_lt (Nat.lt_of_lt_of_le (by have := World.block_lt_of_cell? _ _ hw279_3; first | rwa [add_block] at this | exact this) GW280.out))) _).trans (((cell_far (p := ⟨gb280, _, none⟩) (by first | exact Nat.ne_of_lt (Nat.lt_of_lt_of_le (by have := World.block_lt_of_cell? _ _ hw279_3; first | rwa [add_block] at this | exact this) GW280.out) | (rw [add_block]; exact Nat.ne_of_lt (Nat.lt_of_lt_of_le (by have := World.block_lt_of_cell? _ _ hw279_3; first | rwa [add_block] at this | exact this) GW280.out)) | (show (Addr.add _ _).block ≠ _; rw [add_block]; exact Nat.ne_of_lt (Nat.lt_of_lt_of_le (by have := World.block_lt_of_cell? _ _ hw279_3; first | rwa [add_block] at this | exact this) GW280.out)) | (dsimp only; exact Nat.ne_of_lt (Nat.lt_of_lt_of_le (by have := World.block_lt_of_cell? _ _ hw279_3; first | rwa [add_block] at this | exact this) GW280.out))) _).trans (((cell_far (p := ⟨gb280, _, none⟩) (by first | exact Nat.ne_of_lt (Nat.lt_of_lt_of_le (by have := World.block_lt_of_cell? _ _ hw279_3; first | rwa [add_block] at this | exact this) GW280.out) | (rw [add_block]; exact Nat.ne_of_lt (Nat.lt_of_lt_of_le (by have := World.block_lt_of_cell? _ _ hw279_3; first | rwa [add_block] at this | exact this) GW280.out)) | (show (Addr.add _ _).block ≠ _; rw [add_block]; exact Nat.ne_of_lt (Nat.lt_of_lt_of_le (by have := World.block_lt_of_cell? _ _ hw279_3; first | rwa [add_block] at this | exact this) GW280.out)) | (dsimp only; exact Nat.ne_of_lt (Nat.lt_of_lt_of_le (by have := World.block_lt_of_cell? _ _ hw279_3; first | rwa [add_block] at this | exact this) GW280.out))) _).trans (hHeld.2.2.2.2.2.2.2.2.2.2.2.2.2.2.2.2.2.2.2.2.2.2.2))))))))))))⟩ (fun hHeld => ?_)
          clear hK K
          refine done_ (done_of HT_.out (by kernel_rfl)) ?_
          have hnb49 := NB265_266.out
          have hnc49 := NB266_265.out
          have hnb50 := NB265_280.out
          have hnc50 := NB280_265.out
          have hcz51_0 : w42.cell? ⟨gb265, 0, none⟩ = some (.int .i64 a0_0) := (blk_cell BK265.out 0).trans rfl
          have hcz51_1 : w42.cell? ⟨gb265, 1, none⟩ = some (.int .i64 a0_1) := (blk_cell BK265.out 1).trans rfl
          have hcz51_2 : w42.cell? ⟨gb265, 2, none⟩ = some (.string a0_2) := (blk_cell BK265.out 2).trans rfl
          have hcz51_3 : w42.cell? ⟨gb265, 3, none⟩ = some (.slice (some ad275) l0_3.length c0_3) := (blk_cell BK265.out 3).trans rfl
          have hfz51_0 := blk_frozen BK265.out 0
          have hfz51_1 := blk_frozen BK265.out 1
          have hfz51_2 := blk_frozen BK265.out 2
          have hfz51_3 := blk_frozen BK265.out 3
          have p281 : 0 ≤ (1 : Int) := (by omega)
          have q281 : 1 < (l0_3.length : Int) := of_decide_eq_true (by first | (with_reducible assumption) | assumption)
          obtain ⟨ad281, A281_3, c281_3, e281, hx281_0, hx281_1, hx281_2, hx281_3, hl281_3, hi281_3⟩ := at_T54 HR0_3.out 1 p281 q281
          obtain rfl : ad275 = ad281 := (by injection e281)
          (try simp only [show (1 : Int).toNat = 1 from rfl, Nat.reduceMul, Nat.reduceEqDiff, Go.Addr.add, ↓reduceIte] at hx281_0 hx281_1 hx281_2 hx281_3)
          have qi281 : (1 < l0_3.length) = True := eq_true (by omega)
          (try rw [show ((1 : Int)).toNat = 1 from rfl] at hx281_0)
          (try rw [show 1 * 4 = 4 from rfl] at hx281_0)
          (try rw [show ((1 : Int)).toNat = 1 from rfl] at hx281_1)
          (try rw [show 1 * 4 = 4 from rfl] at hx281_1)
          (try rw [show ((1 : Int)).toNat = 1 from rfl] at hx281_2)
          (try rw [show 1 * 4 = 4 from rfl] at hx281_2)
          (try rw [show ((1 : Int)).toNat = 1 from rfl] at hx281_3)
          (try rw [show 1 * 4 = 4 from rfl] at hx281_3)
          have hn281_0 : ad275.block ≠ gb280 := Nat.ne_of_lt (Nat.lt_of_lt_of_le (by have := World.block_lt_of_cell? _ _ hx281_0; first | rwa [add_block] at this | exact this) GW280.out)
          have hn281_1 : ad275.block ≠ gb280 := Nat.ne_of_lt (Nat.lt_of_lt_of_le (by have := World.block_lt_of_cell? _ _ hx281_0; first | rwa [add_block] at this | exact this) GW280.out)
          have hn281_2 : ad275.block ≠ gb280 := Nat.ne_of_lt (Nat.lt_of_lt_of_le (by have := World.block_lt_of_cell? _ _ hx281_0; first | rwa [add_block] at this | exact this) GW280.out)
          have hn281_3 : ad275.block ≠ gb280 := Nat.ne_of_lt (Nat.lt_of_lt_of_le (by have := World.block_lt_of_cell? _ _ hx281_0; first | rwa [add_block] at this | exact this) GW280.out)
          have hn281_4 : ad275.block ≠ gb280 := Nat.ne_of_lt (Nat.lt_of_lt_of_le (by have := World.block_lt_of_cell? _ _ hx281_0; first | rwa [add_block] at this | exact this) GW280.out)
          have hn281_5 : ad275.block ≠ gb280 := Nat.ne_of_lt (Nat.lt_of_lt_of_le (by have := World.block_lt_of_cell? _ _ hx281_0; first | rwa [add_block] at this | exact this) GW280.out)
          replace hx281_0 := (HB.out.cell (World.block_lt_of_cell? w _ hx281_0)).trans hx281_0
          replace hx281_1 := (HB.out.cell (World.block_lt_of_cell? w _ hx281_1)).trans hx281_1
          replace hx281_2 := (HB.out.cell (World.block_lt_of_cell? w _ hx281_2)).trans hx281_2
          replace hx281_3 := (HB.out.cell (World.block_lt_of_cell? w _ hx281_3)).trans hx281_3
          have HR281_3 := Aside0.mk hi281_3
          have HC281_3 := Aside0.mk hl281_3
          clear hi281_3 hl281_3
          replace hx281_0 := (cell_far (p := ⟨gb280, 0, none⟩) (by first | (rw [add_block]; exact hn281_0) | (show (Addr.add _ _).block ≠ _; rw [add_block]; exact hn281_0) | exact hn281_0) (.string ((rd_T54 l0_3 0).f2))).trans hx281_0
          replace hx281_1 := (cell_far (p := ⟨gb280, 0, none⟩) (by first | (rw [add_block]; exact hn281_0) | (show (Addr.add _ _).block ≠ _; rw [add_block]; exact hn281_0) | exact hn281_0) (.string ((rd_T54 l0_3 0).f2))).trans hx281_1
          replace hx281_2 := (cell_far (p := ⟨gb280, 0, none⟩) (by first | (rw [add_block]; exact hn281_0) | (show (Addr.add _ _).block ≠ _; rw [add_block]; exact hn281_0) | exact hn281_0) (.string ((rd_T54 l0_3 0).f2))).trans hx281_2
          replace hx281_3 := (cell_far (p := ⟨gb280, 0, none⟩) (by first | (rw [add_block]; exact hn281_0) | (show (Addr.add _ _).block ≠ _; rw [add_block]; exact hn281_0) | exact hn281_0) (.string ((rd_T54 l0_3 0).f2))).trans hx281_3
          replace hx281_0 := (cell_far (p := ⟨gb280, 1, none⟩) (by first | (rw [add_block]; exact hn281_1) | (show (Addr.add _ _).block ≠ _; rw [add_block]; exact hn281_1) | exact hn281_1) (.slice none 0 0)).trans hx281_0
          replace hx281_1 := (cell_far (p := ⟨gb280, 1, none⟩) (by first | (rw [add_block]; exact hn281_1) | (show (Addr.add _ _).block ≠ _; rw [add_block]; exact hn281_1) | exact hn281_1) (.slice none 0 0)).trans hx281_1
          replace hx281_2 := (cell_far (p := ⟨gb280, 1, none⟩) (by first | (rw [add_block]; exact hn281_1) | (show (Addr.add _ _).block ≠ _; rw [add_block]; exact hn281_1) | exact hn281_1) (.slice none 0 0)).trans hx281_2
          replace hx281_3 := (cell_far (p := ⟨gb280, 1, none⟩) (by first | (rw [add_block]; exact hn281_1) | (show (Addr.add _ _).block ≠ _; rw [add_block]; exact hn281_1) | exact hn281_1) (.slice none 0 0)).trans hx281_3
          replace hx281_0 := (cell_far (p := ⟨gb280, 2, none⟩) (by first | (rw [add_block]; exact hn281_2) | (show (Addr.add _ _).block ≠ _; rw [add_block]; exact hn281_2) | exact hn281_2) (.int .i64 ((rd_T54 l0_3 2).f1))).trans hx281_0
          replace hx281_1 := (cell_far (p := ⟨gb280, 2, none⟩) (by first | (rw [add_block]; exact hn281_2) | (show (Addr.add _ _).block ≠ _; rw [add_block]; exact hn281_2) | exact hn281_2) (.int .i64 ((rd_T54 l0_3 2).f1))).trans hx281_1
          replace hx281_2 := (cell_far (p := ⟨gb280, 2, none⟩) (by first | (rw [add_block]; exact hn281_2) | (show (Addr.add _ _).block ≠ _; rw [add_block]; exact hn281_2) | exact hn281_2) (.int .i64 ((rd_T54 l0_3 2).f1))).trans hx281_2
          replace hx281_3 := (cell_far (p := ⟨gb280, 2, none⟩) (by first | (rw [add_block]; exact hn281_2) | (show (Addr.add _ _).block ≠ _; rw [add_block]; exact hn281_2) | exact hn281_2) (.int .i64 ((rd_T54 l0_3 2).f1))).trans hx281_3
          replace hx281_0 := (cell_far (p := ⟨gb280, 3, none⟩) (by first | (rw [add_block]; exact hn281_3) | (show (Addr.add _ _).block ≠ _; rw [add_block]; exact hn281_3) | exact hn281_3) (.int .i64 ((rd_T54 l0_3 3).f1))).trans hx281_0
          replace hx281_1 := (cell_far (p := ⟨gb280, 3, none⟩) (by first | (rw [add_block]; exact hn281_3) | (show (Addr.add _ _).block ≠ _; rw [add_block]; exact hn281_3) | exact hn281_3) (.int .i64 ((rd_T54 l0_3 3).f1))).trans hx281_1
          replace hx281_2 := (cell_far (p := ⟨gb280, 3, none⟩) (by first | (rw [add_block]; exact hn281_3) | (show (Addr.add _ _).block ≠ _; rw [add_block]; exact hn281_3) | exact hn281_3) (.int .i64 ((rd_T54 l0_3 3).f1))).trans hx281_2
          replace hx281_3 := (cell_far (p := ⟨gb280, 3, none⟩) (by first | (rw [add_block]; exact hn281_3) | (show (Addr.add _ _).block ≠ _; rw [add_block]; exact hn281_3) | exact hn281_3) (.int .i64 ((rd_T54 l0_3 3).f1))).trans hx281_3
          replace hx281_0 := (cell_far (p := ⟨gb280, 4, none⟩) (by first | (rw [add_block]; exact hn281_4) | (show (Addr.add _ _).block ≠ _; rw [add_block]; exact hn281_4) | exact hn281_4) (.int .i64 ((rd_T54 l0_3 4).f1))).trans hx281_0
          replace hx281_1 := (cell_far (p := ⟨gb280, 4, none⟩) (by first | (rw [add_block]; exact hn281_4) | (show (Addr.add _ _).block ≠ _; rw [add_block]; exact hn281_4) | exact hn281_4) (.int .i64 ((rd_T54 l0_3 4).f1))).trans hx281_1
          replace hx281_2 := (cell_far (p := ⟨gb280, 4, none⟩) (by first | (rw [add_block]; exact hn281_4) | (show (Addr.add _ _).block ≠ _; rw [add_block]; exact hn281_4) | exact hn281_4) (.int .i64 ((rd_T54 l0_3 4).f1))).trans hx281_2
          replace hx281_3 := (cell_far (p := ⟨gb280, 4, none⟩) (by first | (rw [add_block]; exact hn281_4) | (show (Addr.add _ _).block ≠ _; rw [add_block]; exact hn281_4) | exact hn281_4) (.int .i64 ((rd_T54 l0_3 4).f1))).trans hx281_3
          replace hx281_0 := (cell_far (p := ⟨gb280, 5, none⟩) (by first | (rw [add_block]; exact hn281_5) | (show (Addr.add _ _).block ≠ _; rw [add_block]; exact hn281_5) | exact hn281_5) (.string ((rd_T54 l0_3 5).f2))).trans hx281_0
          replace hx281_1 := (cell_far (p := ⟨gb280, 5, none⟩) (by first | (rw [add_block]; exact hn281_5) | (show (Addr.add _ _).block ≠ _; rw [add_block]; exact hn281_5) | exact hn281_5) (.string ((rd_T54 l0_3 5).f2))).trans hx281_1
          replace hx281_2 := (cell_far (p := ⟨gb280, 5, none⟩) (by first | (rw [add_block]; exact hn281_5) | (show (Addr.add _ _).block ≠ _; rw [add_block]; exact hn281_5) | exact hn281_5) (.string ((rd_T54 l0_3 5).f2))).trans hx281_2
          replace hx281_3 := (cell_far (p := ⟨gb280, 5, none⟩) (by first | (rw [add_block]; exact hn281_5) | (show (Addr.add _ _).block ≠ _; rw [add_block]; exact hn281_5) | exact hn281_5) (.string ((rd_T54 l0_3 5).f2))).trans hx281_3
          clear hn281_0
          clear hn281_1
          clear hn281_2
          clear hn281_3
          clear hn281_4
          clear hn281_5
          replace p281 := eq_true p281
          replace q281 := eq_true q281
          try go_wp2
          go_loopg [62] kj1 (fun kq v62 w' => ∃ (x62_2 : Int) (x267000_2 : ByteArray) (x267002_2 : Int) (x267003_2 : Int) (x267004_2 : Int) (x267005_2 : ByteArray) (x281001_2 : List ByteArray) (u281001 : Value), v62 = .int .i64 x62_2 ∧ Aside0 (graph_node.l0 kq ((rd_T54 l0_3 1).f3) (((rd_T54 l0_3 1).f3).length : Int) x62_2 ((rd_T54 l0_3 0).f2) x281001_2 ((rd_T54 l0_3 2).f1) ((rd_T54 l0_3 3).f1) ((rd_T54 l0_3 4).f1) ((rd_T54 l0_3 5).f2) = some (r1, r2, r3, r4, r5, r6, r7)) ∧ Aside0 (kq ≤ kj1) ∧ Aside0 (Kd.R Kd.string 9 w' w.heap.size (fun _ => True) u281001 x281001_2) ∧ Aside0 (w'.heap[gb265]? = some (.cells #[.int .i64 a0_0, .int .i64 a0_1, .string a0_2, (.slice (some ad275) l0_3.length c0_3)] 54 (0, 0))) ∧ Aside0 (w'.heap[gb266]? = some (.cells #[.string x267000_2, (.slice none 0 0), .int .i64 x267002_2, .int .i64 x267003_2, .int .i64 x267004_2, .string x267005_2] 48 (0, 0))) ∧ Aside0 (w'.heap[gb280]? = some (.cells #[.string ((rd_T54 l0_3 0).f2), u281001, .int .i64 ((rd_T54 l0_3 2).f1), .int .i64 ((rd_T54 l0_3 3).f1), .int .i64 ((rd_T54 l0_3 4).f1), .string ((rd_T54 l0_3 5).f2)] 48 (0, 0))) ∧ Aside0 (Below w.heap.size w w'))
          case atStart => exact ⟨(0), ((⟨#[]⟩ : ByteArray)), (0), (0), (0), ((⟨#[]⟩ : ByteArray)), (([] : List ByteArray)), (.slice none 0 0), (by first | rfl | (simp; done) | (simp [*]; done)), H', ⟨Nat.le_refl _⟩, ⟨kn⟩, ⟨by (with_reducible repeat (first | refine blk_drewN ?_ _ | refine blk_drew ?_ | refine blk_alloc ?_ _)); refine blk_far ?_ NB265_280.out _; (with_reducible repeat (first | refine blk_drewN ?_ _ | refine blk_drew ?_ | refine blk_alloc ?_ _)); refine blk_far ?_ NB265_280.out _; (with_reducible repeat (first | refine blk_drewN ?_ _ | refine blk_drew ?_ | refine blk_alloc ?_ _)); refine blk_far ?_ NB265_280.out _; (with_reducible repeat (first | refine blk_drewN ?_ _ | refine blk_drew ?_ | refine blk_alloc ?_ _)); refine blk_far ?_ NB265_280.out _; (with_reducible repeat (first | refine blk_drewN ?_ _ | refine blk_drew ?_ | refine blk_alloc ?_ _)); refine blk_far ?_ NB265_280.out _; (with_reducible repeat (first | refine blk_drewN ?_ _ | refine blk_drew ?_ | refine blk_alloc ?_ _)); refine blk_far ?_ NB265_280.out _; (with_reducible repeat (first | refine blk_drewN ?_ _ | refine blk_drew ?_ | refine blk_alloc ?_ _)); exact BK265.out⟩, ⟨by (with_reducible repeat (first | refine blk_drewN ?_ _ | refine blk_drew ?_ | refine blk_alloc ?_ _)); refine blk_far ?_ NB266_280.out _; (with_reducible repeat (first | refine blk_drewN ?_ _ | refine blk_drew ?_ | refine blk_alloc ?_ _)); refine blk_far ?_ NB266_280.out _; (with_reducible repeat (first | refine blk_drewN ?_ _ | refine blk_drew ?_ | refine blk_alloc ?_ _)); refine blk_far ?_ NB266_280.out _; (with_reducible repeat (first | refine blk_drewN ?_ _ | refine blk_drew ?_ | refine blk_alloc ?_ _)); refine blk_far ?_ NB266_280.out _; (with_reducible repeat (first | refine blk_drewN ?_ _ | refine blk_drew ?_ | refine blk_alloc ?_ _)); refine blk_far ?_ NB266_280.out _; (with_reducible repeat (first | refine blk_drewN ?_ _ | refine blk_drew ?_ | refine blk_alloc ?_ _)); refine blk_far ?_ NB266_280.out _; (with_reducible repeat (first | refine blk_drewN ?_ _ | refine blk_drew ?_ | refine blk_alloc ?_ _)); exact BK266.out⟩, ⟨by (with_reducible repeat (first | refine blk_drewN ?_ _ | refine blk_drew ?_ | refine blk_alloc ?_ _)); refine blk_put (cs := #[.string ((rd_T54 l0_3 0).f2), .slice none 0 0, .int .i64 ((rd_T54 l0_3 2).f1), .int .i64 ((rd_T54 l0_3 3).f1), .int .i64 ((rd_T54 l0_3 4).f1), .string (⟨#[]⟩ : ByteArray)]) ?_ 5 _ rfl; (with_reducible repeat (first | refine blk_drewN ?_ _ | refine blk_drew ?_ | refine blk_alloc ?_ _)); refine blk_put (cs := #[.string ((rd_T54 l0_3 0).f2), .slice none 0 0, .int .i64 ((rd_T54 l0_3 2).f1), .int .i64 ((rd_T54 l0_3 3).f1), .int .i64 0, .string (⟨#[]⟩ : ByteArray)]) ?_ 4 _ rfl; (with_reducible repeat (first | refine blk_drewN ?_ _ | refine blk_drew ?_ | refine blk_alloc ?_ _)); refine blk_put (cs := #[.string ((rd_T54 l0_3 0).f2), .slice none 0 0, .int .i64 ((rd_T54 l0_3 2).f1), .int .i64 0, .int .i64 0, .string (⟨#[]⟩ : ByteArray)]) ?_ 3 _ rfl; (with_reducible repeat (first | refine blk_drewN ?_ _ | refine blk_drew ?_ | refine blk_alloc ?_ _)); refine blk_put (cs := #[.string ((rd_T54 l0_3 0).f2), .slice none 0 0, .int .i64 0, .int .i64 0, .int .i64 0, .string (⟨#[]⟩ : ByteArray)]) ?_ 2 _ rfl; (with_reducible repeat (first | refine blk_drewN ?_ _ | refine blk_drew ?_ | refine blk_alloc ?_ _)); refine blk_put (cs := #[.string ((rd_T54 l0_3 0).f2), .slice none 0 0, .int .i64 0, .int .i64 0, .int .i64 0, .string (⟨#[]⟩ : ByteArray)]) ?_ 1 _ rfl; (with_reducible repeat (first | refine blk_drewN ?_ _ | refine blk_drew ?_ | refine blk_alloc ?_ _)); refine blk_put (cs := #[.string (⟨#[]⟩ : ByteArray), .slice none 0 0, .int .i64 0, .int .i64 0, .int .i64 0, .string (⟨#[]⟩ : ByteArray)]) ?_ 0 _ rfl; (with_reducible repeat (first | refine blk_drewN ?_ _ | refine blk_drew ?_ | refine blk_alloc ?_ _)); exact BK280.out⟩, ⟨bb⟩⟩
          case round =>
           clear H'
           try clear c2
           try clear p2
           try clear q2
           try clear hx2
           try clear qi2
           try clear c3
           try clear c4
           try clear c5
           try clear c27
           try clear p27
           try clear q27
           try clear hx27
           try clear qi27
           try clear c28
           try clear p28
           try clear q28
           try clear hx28
           try clear qi28
           try clear c39
           try clear c39b0
           try clear c39b1
           try clear c40
           try clear c40b0
           try clear c40b1
           try clear c49
           try clear c50
           try clear hcz51_0
           try clear hcz51_1
           try clear hcz51_2
           try clear hcz51_3
           try clear hfz51_0
           try clear hfz51_1
           try clear hfz51_2
           try clear hfz51_3
           try clear hx275_0
           try clear hx275_1
           try clear hx275_2
           try clear hx275_3
           try clear hx276_0
           try clear hx276_1
           try clear hx276_2
           try clear hx276_3
           try clear hx277_0
           try clear hx277_1
           try clear hx277_2
           try clear hx277_3
           try clear hx278_0
           try clear hx278_1
           try clear hx278_2
           try clear hx278_3
           try clear hx279_0
           try clear hx279_1
           try clear hx279_2
           try clear hx279_3
           try clear hx281_0
           try clear hx281_1
           try clear hx281_2
           try clear hx281_3
           try clear p275
           try clear p276
           try clear p277
           try clear p278
           try clear p279
           try clear p281
           try clear q275
           try clear q276
           try clear q277
           try clear q278
           try clear q279
           try clear q281
           obtain ⟨x62_2, x267000_2, x267002_2, x267003_2, x267004_2, x267005_2, x281001_2, u281001, rfl, HA, HK2, HO_281001, BK265, BK266, BK280, HB⟩ := hrel
           cases gk with
           | zero => exact absurd HA.out (by simp [graph_node.l0])
           | succ k2 =>
            have H := HA.out
            clear HA
            simp only [graph_node.l0] at H
            by_cases c52 : x62_2 < (((rd_T54 l0_3 1).f3).length : Int)
            ·rw [if_pos c52] at H
             have c52b0 : decide (x62_2 < (((rd_T54 l0_3 1).f3).length : Int)) = true := decide_eq_true c52
             clear c52
             by_cases c53 : 0 ≤ x62_2
             ·rw [if_pos c53] at H
              have c53b0 : decide (0 ≤ x62_2) = true := decide_eq_true c53
              clear c53
              by_cases c54 : x62_2 < (((rd_T54 l0_3 1).f3).length : Int)
              ·rw [if_pos c54] at H
               have c54b0 : decide (x62_2 < (((rd_T54 l0_3 1).f3).length : Int)) = true := decide_eq_true c54
               clear c54
               by_cases c55 : ((rd_T54 ((rd_T54 l0_3 1).f3) x62_2).f0) = 1
               ·rw [if_pos c55] at H
                have c55b0 : (((rd_T54 ((rd_T54 l0_3 1).f3) x62_2).f0) == 1) = true := beq_iff_eq.mpr c55
                have c55b1 : (((rd_T54 ((rd_T54 l0_3 1).f3) x62_2).f0) != 1) = false := bne_eq_false_iff_eq.mpr c55
                clear c55
                by_cases c56 : x281001_2.length < 8796093022208
                ·rw [if_pos c56] at H
                 have LMc56 := Aside0.mk c56
                 clear c56
                 obtain ⟨y284, hy284⟩ : ∃ y_ : List ByteArray, y_ = (x281001_2 ++ [(rd_T54 ((rd_T54 l0_3 1).f3) x62_2).f2]) := ⟨_, rfl⟩
                 replace H : (graph_node.l0 k2 ((rd_T54 l0_3 1).f3) (((rd_T54 l0_3 1).f3).length : Int) (wrap64 (x62_2 + 1)) ((rd_T54 l0_3 0).f2) y284 ((rd_T54 l0_3 2).f1) ((rd_T54 l0_3 3).f1) ((rd_T54 l0_3 4).f1) ((rd_T54 l0_3 5).f2)) = some (r1, r2, r3, r4, r5, r6, r7) := by first | (rw [hy284]; with_reducible exact H) | (have H2_ := (Option.bind_some _ _).symm.trans H; rw [hy284]; with_reducible exact H2_) | (have H2_ := (Option.bind_some _ _).symm.trans H; with_reducible exact H2_) | with_reducible exact H | (rw [hy284]; exact H) | exact H
                 have Ny284 := Aside0.mk hy284
                 clear hy284
                 have H' := Aside0.mk H
                 clear H
                 have p282 : 0 ≤ (x62_2 : Int) := of_decide_eq_true (by first | (with_reducible assumption) | assumption)
                 have q282 : x62_2 < (((rd_T54 l0_3 1).f3).length : Int) := of_decide_eq_true (by first | (with_reducible assumption) | assumption)
                 obtain ⟨ad282, A282_3, c282_3, e282, hx282_0, hx282_1, hx282_2, hx282_3, hl282_3, hi282_3⟩ := at_T54 HR281_3.out x62_2 p282 q282
                 cases e282
                 replace hx282_0 := (HB.out.cell (World.block_lt_of_cell? w _ hx282_0)).trans hx282_0
                 replace hx282_1 := (HB.out.cell (World.block_lt_of_cell? w _ hx282_1)).trans hx282_1
                 replace hx282_2 := (HB.out.cell (World.block_lt_of_cell? w _ hx282_2)).trans hx282_2
                 replace hx282_3 := (HB.out.cell (World.block_lt_of_cell? w _ hx282_3)).trans hx282_3
                 have HR282_3 := Aside0.mk hi282_3
                 have HC282_3 := Aside0.mk hl282_3
                 clear hi282_3 hl282_3
                 replace p282 := eq_true p282
                 replace q282 := eq_true q282
                 go_wp2_with (first | ((with_reducible refine gate_dst (N := 6) rfl ?_); refine box_event ?hg (N := 6) ?hd (cs := #[.int .i64 0, .int .i64 0, .string (⟨#[]⟩ : ByteArray), .slice none 0 0]) (t := 54) ?hr ?_; (case hd => rfl); (case hg => rfl); (case hr => first | (go_simp; done) | (go_simp; rfl)); intro gb283 hg w57 hbox hb; have n0_ := Aside0.mk (Kd.R_below (kR HO_281001.out) hb); have n1_ := Aside0.mk (blk_below (rb BK265.out) hb); have n2_ := Aside0.mk (blk_below (rb BK266.out) hb); have n3_ := Aside0.mk (blk_below (rb BK280.out) hb); have n4_ := Aside0.mk (below_step bb hb); have n5_ := Aside0.mk (hbox); have n6_ := Aside0.mk ((by rw [hg]; exact (below_size bb) : w.heap.size ≤ gb283)); have n7_ := Aside0.mk ((by rw [hg]; exact (below_size bb) : w.heap.size ≤ gb283)); have n8_ := Aside0.mk ((by rw [hg]; exact Nat.ne_of_lt (blk_lt (rb BK265.out)) : gb265 ≠ gb283)); have n9_ := Aside0.mk ((by rw [hg]; exact Nat.ne_of_gt (blk_lt (rb BK265.out)) : gb283 ≠ gb265)); have n10_ := Aside0.mk ((by rw [hg]; exact Nat.ne_of_lt (blk_lt (rb BK266.out)) : gb266 ≠ gb283)); have n11_ := Aside0.mk ((by rw [hg]; exact Nat.ne_of_gt (blk_lt (rb BK266.out)) : gb283 ≠ gb266)); have n12_ := Aside0.mk ((by rw [hg]; exact Nat.ne_of_lt (blk_lt (rb BK280.out)) : gb280 ≠ gb283)); have n13_ := Aside0.mk ((by rw [hg]; exact Nat.ne_of_gt (blk_lt (rb BK280.out)) : gb283 ≠ gb280)); clear HO_281001; clear BK265; clear BK266; clear BK280; clear HB; have HO_281001 := n0_; have BK265 := n1_; have BK266 := n2_; have BK280 := n3_; have HB := n4_; have BK283 := n5_; have GW283 := n6_; have GE283 := n7_; have NB265_283 := n8_; have NB283_265 := n9_; have NB266_283 := n10_; have NB283_266 := n11_; have NB280_283 := n12_; have NB283_280 := n13_; clear n0_ n1_ n2_ n3_ n4_ n5_ n6_ n7_ n8_ n9_ n10_ n11_ n12_ n13_; clear hb hbox hg; have hnb58 := NB283_265.out; have hnc58 := NB265_283.out; have hnb59 := NB283_266.out; have hnc59 := NB266_283.out; have hnb60 := NB283_280.out; have hnc60 := NB280_283.out; have hcz61_0 : w57.cell? ⟨gb283, 0, none⟩ = some (.int .i64 0) := (blk_cell BK283.out 0).trans rfl; have hcz61_1 : w57.cell? ⟨gb283, 1, none⟩ = some (.int .i64 0) := (blk_cell BK283.out 1).trans rfl; have hcz61_2 : w57.cell? ⟨gb283, 2, none⟩ = some (.string (⟨#[]⟩ : ByteArray)) := (blk_cell BK283.out 2).trans rfl; have hcz61_3 : w57.cell? ⟨gb283, 3, none⟩ = some (.slice none 0 0) := (blk_cell BK283.out 3).trans rfl; have hfz61_0 := blk_frozen BK283.out 0; have hfz61_1 := blk_frozen BK283.out 1; have hfz61_2 := blk_frozen BK283.out 2; have hfz61_3 := blk_frozen BK283.out 3; have hnb62 := NB280_265.out; have hnc62 := NB265_280.out; have hnb63 := NB280_266.out; have hnc63 := NB266_280.out; have hcz64_0 : w57.cell? ⟨gb280, 0, none⟩ = some (.string ((rd_T54 l0_3 0).f2)) := (blk_cell BK280.out 0).trans rfl; have hcz64_1 : w57.cell? ⟨gb280, 1, none⟩ = some (u281001) := (blk_cell BK280.out 1).trans rfl; have hcz64_2 : w57.cell? ⟨gb280, 2, none⟩ = some (.int .i64 ((rd_T54 l0_3 2).f1)) := (blk_cell BK280.out 2).trans rfl; have hcz64_3 : w57.cell? ⟨gb280, 3, none⟩ = some (.int .i64 ((rd_T54 l0_3 3).f1)) := (blk_cell BK280.out 3).trans rfl; have hcz64_4 : w57.cell? ⟨gb280, 4, none⟩ = some (.int .i64 ((rd_T54 l0_3 4).f1)) := (blk_cell BK280.out 4).trans rfl; have hcz64_5 : w57.cell? ⟨gb280, 5, none⟩ = some (.string ((rd_T54 l0_3 5).f2)) := (blk_cell BK280.out 5).trans rfl; have hfz64_0 := blk_frozen BK280.out 0; have hfz64_1 := blk_frozen BK280.out 1; have hfz64_2 := blk_frozen BK280.out 2; have hfz64_3 := blk_frozen BK280.out 3; have hfz64_4 := blk_frozen BK280.out 4; have hfz64_5 := blk_frozen BK280.out 5) | ((with_reducible refine gate_builtin (b := .append) (xs := #[.tmp 71, .tmp 74]) rfl ?_); at_builtin; refine Kd.R_append Kd.string (w0 := w) w.heap.size rfl (.tmp 71) (.tmp 74) 46 9 (.string ⟨#[]⟩) 16 rfl Try.underlying46 info9 rfl (by decide) (by omega) u281001 x281001_2 ((rd_T54 ((rd_T54 l0_3 1).f3) x62_2).f2) [.string ((rd_T54 ((rd_T54 l0_3 1).f3) x62_2).f2)] (fun _ => True) (fun _ => False) rfl (by first | (go_simp; done) | (go_simp; rfl)) ?aP (fun _ hk => hk.elim) ?aF ?aO ?aB ?aS ?aL ?_; (case aP => exact rfl); (case aB => exact bb); (case aF => exact (fun _ _ => trivial)); (case aO => exact (kR (Kd.R_mono (Kd.R_far (p := ⟨gb283, 3, none⟩) (Kd.R_far (p := ⟨gb283, 2, none⟩) (Kd.R_far (p := ⟨gb283, 1, none⟩) (Kd.R_far (p := ⟨gb283, 0, none⟩) (Kd.R_types HO_281001.out BK283.out (by decide)) (fun _ hk => hk.2) (.int .i64 ((rd_T54 ((rd_T54 l0_3 1).f3) x62_2).f0))) (fun _ hk => hk.2) (.int .i64 ((rd_T54 ((rd_T54 l0_3 1).f3) x62_2).f1))) (fun _ hk => hk.2) (.string ((rd_T54 ((rd_T54 l0_3 1).f3) x62_2).f2))) (fun _ hk => hk.2) (.slice A282_3 ((rd_T54 ((rd_T54 l0_3 1).f3) x62_2).f3).length c282_3)) (fun _ hk => trivial)))); (case aS => exact (below_size bb)); (case aL => have := LMc56.out; omega); intro v285 w65 ho hb hg hat; rw [← Ny284.out] at ho; have n0_ := Aside0.mk (blk_grown (rb (blk_far (rb (blk_far (rb (blk_far (rb (blk_far (rb BK265.out) NB265_283.out _)) NB265_283.out _)) NB265_283.out _)) NB265_283.out _)) hg (Kd.R_ne HO_281001.out BK265.out (by decide))); have n1_ := Aside0.mk (blk_grown (rb (blk_far (rb (blk_far (rb (blk_far (rb (blk_far (rb BK266.out) NB266_283.out _)) NB266_283.out _)) NB266_283.out _)) NB266_283.out _)) hg (Kd.R_ne HO_281001.out BK266.out (by decide))); have n2_ := Aside0.mk (blk_grown (rb (blk_far (rb (blk_far (rb (blk_far (rb (blk_far (rb BK280.out) NB280_283.out _)) NB280_283.out _)) NB280_283.out _)) NB280_283.out _)) hg (Kd.R_ne HO_281001.out BK280.out (by decide))); have n3_ := Aside0.mk (blk_grown (rb (blk_put (cs := #[.int .i64 ((rd_T54 ((rd_T54 l0_3 1).f3) x62_2).f0), .int .i64 ((rd_T54 ((rd_T54 l0_3 1).f3) x62_2).f1), .string ((rd_T54 ((rd_T54 l0_3 1).f3) x62_2).f2), .slice none 0 0]) (rb (blk_put (cs := #[.int .i64 ((rd_T54 ((rd_T54 l0_3 1).f3) x62_2).f0), .int .i64 ((rd_T54 ((rd_T54 l0_3 1).f3) x62_2).f1), .string (⟨#[]⟩ : ByteArray), .slice none 0 0]) (rb (blk_put (cs := #[.int .i64 ((rd_T54 ((rd_T54 l0_3 1).f3) x62_2).f0), .int .i64 0, .string (⟨#[]⟩ : ByteArray), .slice none 0 0]) (rb (blk_put (cs := #[.int .i64 0, .int .i64 0, .string (⟨#[]⟩ : ByteArray), .slice none 0 0]) (rb BK283.out) 0 _ rfl)) 1 _ rfl)) 2 _ rfl)) 3 _ rfl)) hg (Kd.R_ne HO_281001.out BK283.out (by decide))); have n4_ := Aside0.mk (hb); have n5_ := Aside0.mk (ho); clear BK265; clear BK266; clear BK280; clear BK283; clear HB; clear HO_281001; have BK265 := n0_; have BK266 := n1_; have BK280 := n2_; have BK283 := n3_; have HB := n4_; have HO286 := n5_; clear n0_ n1_ n2_ n3_ n4_ n5_; clear ho hb hg hat; obtain ⟨Ao66, co66, eo66⟩ := Kd.R_slice HO286.out; subst eo66; have hcz67_0 : w65.cell? ⟨gb280, 0, none⟩ = some (.string ((rd_T54 l0_3 0).f2)) := (blk_cell BK280.out 0).trans rfl; have hcz67_1 : w65.cell? ⟨gb280, 1, none⟩ = some (u281001) := (blk_cell BK280.out 1).trans rfl; have hcz67_2 : w65.cell? ⟨gb280, 2, none⟩ = some (.int .i64 ((rd_T54 l0_3 2).f1)) := (blk_cell BK280.out 2).trans rfl; have hcz67_3 : w65.cell? ⟨gb280, 3, none⟩ = some (.int .i64 ((rd_T54 l0_3 3).f1)) := (blk_cell BK280.out 3).trans rfl; have hcz67_4 : w65.cell? ⟨gb280, 4, none⟩ = some (.int .i64 ((rd_T54 l0_3 4).f1)) := (blk_cell BK280.out 4).trans rfl; have hcz67_5 : w65.cell? ⟨gb280, 5, none⟩ = some (.string ((rd_T54 l0_3 5).f2)) := (blk_cell BK280.out 5).trans rfl; have hfz67_0 := blk_frozen BK280.out 0; have hfz67_1 := blk_frozen BK280.out 1; have hfz67_2 := blk_frozen BK280.out 2; have hfz67_3 := blk_frozen BK280.out 3; have hfz67_4 := blk_frozen BK280.out 4; have hfz67_5 := blk_frozen BK280.out 5))
                 go_roundg k2
                 case measure => have := HJ1.out; have := HK2.out; omega
                 case rel => exact ⟨(wrap64 (x62_2 + 1)), (x267000_2), (x267002_2), (x267003_2), (x267004_2), (x267005_2), (y284), (.slice Ao66 y284.length co66), (by first | rfl | (simp; done) | (simp [*]; done)), H', ⟨by have := HJ1.out; have := HK2.out; omega⟩, ⟨kR (Kd.R_mono (Kd.R_far (p := ⟨gb280, 1, none⟩) (Kd.R_types HO286.out BK280.out (by decide)) (fun _ hk => hk.2) (.slice Ao66 y284.length co66)) (fun _ hk => trivial))⟩, ⟨by (with_reducible repeat (first | refine blk_drewN ?_ _ | refine blk_drew ?_ | refine blk_alloc ?_ _)); refine blk_far ?_ NB265_280.out _; (with_reducible repeat (first | refine blk_drewN ?_ _ | refine blk_drew ?_ | refine blk_alloc ?_ _)); exact BK265.out⟩, ⟨by (with_reducible repeat (first | refine blk_drewN ?_ _ | refine blk_drew ?_ | refine blk_alloc ?_ _)); refine blk_far ?_ NB266_280.out _; (with_reducible repeat (first | refine blk_drewN ?_ _ | refine blk_drew ?_ | refine blk_alloc ?_ _)); exact BK266.out⟩, ⟨by (with_reducible repeat (first | refine blk_drewN ?_ _ | refine blk_drew ?_ | refine blk_alloc ?_ _)); refine blk_put (cs := #[.string ((rd_T54 l0_3 0).f2), u281001, .int .i64 ((rd_T54 l0_3 2).f1), .int .i64 ((rd_T54 l0_3 3).f1), .int .i64 ((rd_T54 l0_3 4).f1), .string ((rd_T54 l0_3 5).f2)]) ?_ 1 _ rfl; (with_reducible repeat (first | refine blk_drewN ?_ _ | refine blk_drew ?_ | refine blk_alloc ?_ _)); exact BK280.out⟩, ⟨bb⟩⟩
                ·rw [if_neg c56] at H
                 exact absurd H (by simp)
               ·rw [if_neg c55] at H
                have c55b0 : (((rd_T54 ((rd_T54 l0_3 1).f3) x62_2).f0) == 1) = false := beq_eq_false_iff_ne.mpr c55
                have c55b1 : (((rd_T54 ((rd_T54 l0_3 1).f3) x62_2).f0) != 1) = true := bne_iff_ne.mpr c55
                simp only [Option.some.injEq, Prod.mk.injEq] at H
                obtain ⟨rfl, rfl, rfl, rfl, rfl, rfl, rfl⟩ := H
                have p282 : 0 ≤ (x62_2 : Int) := of_decide_eq_true (by first | (with_reducible assumption) | assumption)
                have q282 : x62_2 < (((rd_T54 l0_3 1).f3).length : Int) := of_decide_eq_true (by first | (with_reducible assumption) | assumption)
                obtain ⟨ad282, A282_3, c282_3, e282, hx282_0, hx282_1, hx282_2, hx282_3, hl282_3, hi282_3⟩ := at_T54 HR281_3.out x62_2 p282 q282
                cases e282
                replace hx282_0 := (HB.out.cell (World.block_lt_of_cell? w _ hx282_0)).trans hx282_0
                replace hx282_1 := (HB.out.cell (World.block_lt_of_cell? w _ hx282_1)).trans hx282_1
                replace hx282_2 := (HB.out.cell (World.block_lt_of_cell? w _ hx282_2)).trans hx282_2
                replace hx282_3 := (HB.out.cell (World.block_lt_of_cell? w _ hx282_3)).trans hx282_3
                have HR282_3 := Aside0.mk hi282_3
                have HC282_3 := Aside0.mk hl282_3
                clear hi282_3 hl282_3
                replace p282 := eq_true p282
                replace q282 := eq_true q282
                go_wp2_with (first | ((with_reducible refine gate_dst (N := 6) rfl ?_); refine box_event ?hg (N := 6) ?hd (cs := #[.int .i64 0, .int .i64 0, .string (⟨#[]⟩ : ByteArray), .slice none 0 0]) (t := 54) ?hr ?_; (case hd => rfl); (case hg => rfl); (case hr => first | (go_simp; done) | (go_simp; rfl)); intro gb283 hg w68 hbox hb; have n0_ := Aside0.mk (Kd.R_below (kR HO_281001.out) hb); have n1_ := Aside0.mk (blk_below (rb BK265.out) hb); have n2_ := Aside0.mk (blk_below (rb BK266.out) hb); have n3_ := Aside0.mk (blk_below (rb BK280.out) hb); have n4_ := Aside0.mk (below_step bb hb); have n5_ := Aside0.mk (hbox); have n6_ := Aside0.mk ((by rw [hg]; exact (below_size bb) : w.heap.size ≤ gb283)); have n7_ := Aside0.mk ((by rw [hg]; exact (below_size bb) : w.heap.size ≤ gb283)); have n8_ := Aside0.mk ((by rw [hg]; exact Nat.ne_of_lt (blk_lt (rb BK265.out)) : gb265 ≠ gb283)); have n9_ := Aside0.mk ((by rw [hg]; exact Nat.ne_of_gt (blk_lt (rb BK265.out)) : gb283 ≠ gb265)); have n10_ := Aside0.mk ((by rw [hg]; exact Nat.ne_of_lt (blk_lt (rb BK266.out)) : gb266 ≠ gb283)); have n11_ := Aside0.mk ((by rw [hg]; exact Nat.ne_of_gt (blk_lt (rb BK266.out)) : gb283 ≠ gb266)); have n12_ := Aside0.mk ((by rw [hg]; exact Nat.ne_of_lt (blk_lt (rb BK280.out)) : gb280 ≠ gb283)); have n13_ := Aside0.mk ((by rw [hg]; exact Nat.ne_of_gt (blk_lt (rb BK280.out)) : gb283 ≠ gb280)); clear HO_281001; clear BK265; clear BK266; clear BK280; clear HB; have HO_281001 := n0_; have BK265 := n1_; have BK266 := n2_; have BK280 := n3_; have HB := n4_; have BK283 := n5_; have GW283 := n6_; have GE283 := n7_; have NB265_283 := n8_; have NB283_265 := n9_; have NB266_283 := n10_; have NB283_266 := n11_; have NB280_283 := n12_; have NB283_280 := n13_; clear n0_ n1_ n2_ n3_ n4_ n5_ n6_ n7_ n8_ n9_ n10_ n11_ n12_ n13_; clear hb hbox hg; have hnb69 := NB283_265.out; have hnc69 := NB265_283.out; have hnb70 := NB283_266.out; have hnc70 := NB266_283.out; have hnb71 := NB283_280.out; have hnc71 := NB280_283.out; have hcz72_0 : w68.cell? ⟨gb283, 0, none⟩ = some (.int .i64 0) := (blk_cell BK283.out 0).trans rfl; have hcz72_1 : w68.cell? ⟨gb283, 1, none⟩ = some (.int .i64 0) := (blk_cell BK283.out 1).trans rfl; have hcz72_2 : w68.cell? ⟨gb283, 2, none⟩ = some (.string (⟨#[]⟩ : ByteArray)) := (blk_cell BK283.out 2).trans rfl; have hcz72_3 : w68.cell? ⟨gb283, 3, none⟩ = some (.slice none 0 0) := (blk_cell BK283.out 3).trans rfl; have hfz72_0 := blk_frozen BK283.out 0; have hfz72_1 := blk_frozen BK283.out 1; have hfz72_2 := blk_frozen BK283.out 2; have hfz72_3 := blk_frozen BK283.out 3; have hnb73 := NB266_265.out; have hnc73 := NB265_266.out; have hnb74 := NB266_280.out; have hnc74 := NB280_266.out; have hcz75_0 : w68.cell? ⟨gb266, 0, none⟩ = some (.string x267000_2) := (blk_cell BK266.out 0).trans rfl; have hcz75_1 : w68.cell? ⟨gb266, 1, none⟩ = some (.slice none 0 0) := (blk_cell BK266.out 1).trans rfl; have hcz75_2 : w68.cell? ⟨gb266, 2, none⟩ = some (.int .i64 x267002_2) := (blk_cell BK266.out 2).trans rfl; have hcz75_3 : w68.cell? ⟨gb266, 3, none⟩ = some (.int .i64 x267003_2) := (blk_cell BK266.out 3).trans rfl; have hcz75_4 : w68.cell? ⟨gb266, 4, none⟩ = some (.int .i64 x267004_2) := (blk_cell BK266.out 4).trans rfl; have hcz75_5 : w68.cell? ⟨gb266, 5, none⟩ = some (.string x267005_2) := (blk_cell BK266.out 5).trans rfl; have hfz75_0 := blk_frozen BK266.out 0; have hfz75_1 := blk_frozen BK266.out 1; have hfz75_2 := blk_frozen BK266.out 2; have hfz75_3 := blk_frozen BK266.out 3; have hfz75_4 := blk_frozen BK266.out 4; have hfz75_5 := blk_frozen BK266.out 5))
                refine bodyPost_ret (results_ct rfl _ _ gb266 48 #[.string (⟨#[]⟩ : ByteArray), .slice none 0 0, .int .i64 0, .int .i64 0, .int .i64 0, .string (⟨#[]⟩ : ByteArray)] (0, 0) _ rfl (rb (blk_put (cs := #[.string (⟨#[]⟩ : ByteArray), .slice none 0 0, .int .i64 0, .int .i64 0, .int .i64 0, .string x267005_2]) (rb (blk_put (cs := #[.string (⟨#[]⟩ : ByteArray), .slice none 0 0, .int .i64 0, .int .i64 0, .int .i64 x267004_2, .string x267005_2]) (rb (blk_put (cs := #[.string (⟨#[]⟩ : ByteArray), .slice none 0 0, .int .i64 0, .int .i64 x267003_2, .int .i64 x267004_2, .string x267005_2]) (rb (blk_put (cs := #[.string (⟨#[]⟩ : ByteArray), .slice none 0 0, .int .i64 x267002_2, .int .i64 x267003_2, .int .i64 x267004_2, .string x267005_2]) (rb (blk_put (cs := #[.string (⟨#[]⟩ : ByteArray), .slice none 0 0, .int .i64 x267002_2, .int .i64 x267003_2, .int .i64 x267004_2, .string x267005_2]) (rb (blk_put (cs := #[.string x267000_2, .slice none 0 0, .int .i64 x267002_2, .int .i64 x267003_2, .int .i64 x267004_2, .string x267005_2]) (rb (blk_far (rb (blk_far (rb (blk_far (rb (blk_far (rb BK266.out) NB266_283.out _)) NB266_283.out _)) NB266_283.out _)) NB266_283.out _)) 0 _ rfl)) 1 _ rfl)) 2 _ rfl)) 3 _ rfl)) 4 _ rfl)) 5 _ rfl)) Try.underlying48 rfl (by kernel_rfl)) rfl ?_
                exact ⟨_, by first | rfl | (simp [errW_none, errW_some] <;> rfl) | (simp [*, errW_none, errW_some] <;> rfl), kn, bb⟩
              ·rw [if_neg c54] at H
               exact absurd H (by simp)
             ·rw [if_neg c53] at H
              exact absurd H (by simp)
            ·rw [if_neg c52] at H
             have c52b0 : decide (x62_2 < (((rd_T54 l0_3 1).f3).length : Int)) = false := decide_eq_false c52
             clear c52
             simp only [Option.some.injEq, Prod.mk.injEq] at H
             obtain ⟨rfl, rfl, rfl, rfl, rfl, rfl, rfl⟩ := H
             have hnb76 := NB280_265.out
             have hnc76 := NB265_280.out
             have hnb77 := NB280_266.out
             have hnc77 := NB266_280.out
             have hcz78_0 : wr.cell? ⟨gb280, 0, none⟩ = some (.string ((rd_T54 l0_3 0).f2)) := (blk_cell BK280.out 0).trans rfl
             have hcz78_1 : wr.cell? ⟨gb280, 1, none⟩ = some (u281001) := (blk_cell BK280.out 1).trans rfl
             have hcz78_2 : wr.cell? ⟨gb280, 2, none⟩ = some (.int .i64 ((rd_T54 l0_3 2).f1)) := (blk_cell BK280.out 2).trans rfl
             have hcz78_3 : wr.cell? ⟨gb280, 3, none⟩ = some (.int .i64 ((rd_T54 l0_3 3).f1)) := (blk_cell BK280.out 3).trans rfl
             have hcz78_4 : wr.cell? ⟨gb280, 4, none⟩ = some (.int .i64 ((rd_T54 l0_3 4).f1)) := (blk_cell BK280.out 4).trans rfl
             have hcz78_5 : wr.cell? ⟨gb280, 5, none⟩ = some (.string ((rd_T54 l0_3 5).f2)) := (blk_cell BK280.out 5).trans rfl
             have hfz78_0 := blk_frozen BK280.out 0
             have hfz78_1 := blk_frozen BK280.out 1
             have hfz78_2 := blk_frozen BK280.out 2
             have hfz78_3 := blk_frozen BK280.out 3
             have hfz78_4 := blk_frozen BK280.out 4
             have hfz78_5 := blk_frozen BK280.out 5
             have hnb79 := NB266_265.out
             have hnc79 := NB265_266.out
             have hcz80_0 : wr.cell? ⟨gb266, 0, none⟩ = some (.string x267000_2) := (blk_cell BK266.out 0).trans rfl
             have hcz80_1 : wr.cell? ⟨gb266, 1, none⟩ = some (.slice none 0 0) := (blk_cell BK266.out 1).trans rfl
             have hcz80_2 : wr.cell? ⟨gb266, 2, none⟩ = some (.int .i64 x267002_2) := (blk_cell BK266.out 2).trans rfl
             have hcz80_3 : wr.cell? ⟨gb266, 3, none⟩ = some (.int .i64 x267003_2) := (blk_cell BK266.out 3).trans rfl
             have hcz80_4 : wr.cell? ⟨gb266, 4, none⟩ = some (.int .i64 x267004_2) := (blk_cell BK266.out 4).trans rfl
             have hcz80_5 : wr.cell? ⟨gb266, 5, none⟩ = some (.string x267005_2) := (blk_cell BK266.out 5).trans rfl
             have hfz80_0 := blk_frozen BK266.out 0
             have hfz80_1 := blk_frozen BK266.out 1
             have hfz80_2 := blk_frozen BK266.out 2
             have hfz80_3 := blk_frozen BK266.out 3
             have hfz80_4 := blk_frozen BK266.out 4
             have hfz80_5 := blk_frozen BK266.out 5
             obtain ⟨Ao81, co81, eo81⟩ := Kd.R_slice HO_281001.out
             subst eo81
             go_wp2
             refine bodyPost_ret (results_ct rfl _ _ gb266 48 #[.string ((rd_T54 l0_3 0).f2), .slice Ao81 x281001_2.length co81, .int .i64 ((rd_T54 l0_3 2).f1), .int .i64 ((rd_T54 l0_3 3).f1), .int .i64 ((rd_T54 l0_3 4).f1), .string ((rd_T54 l0_3 5).f2)] (0, 0) _ rfl (rb (blk_put (cs := #[.string ((rd_T54 l0_3 0).f2), .slice Ao81 x281001_2.length co81, .int .i64 ((rd_T54 l0_3 2).f1), .int .i64 ((rd_T54 l0_3 3).f1), .int .i64 ((rd_T54 l0_3 4).f1), .string x267005_2]) (rb (blk_put (cs := #[.string ((rd_T54 l0_3 0).f2), .slice Ao81 x281001_2.length co81, .int .i64 ((rd_T54 l0_3 2).f1), .int .i64 ((rd_T54 l0_3 3).f1), .int .i64 x267004_2, .string x267005_2]) (rb (blk_put (cs := #[.string ((rd_T54 l0_3 0).f2), .slice Ao81 x281001_2.length co81, .int .i64 ((rd_T54 l0_3 2).f1), .int .i64 x267003_2, .int .i64 x267004_2, .string x267005_2]) (rb (blk_put (cs := #[.string ((rd_T54 l0_3 0).f2), .slice Ao81 x281001_2.length co81, .int .i64 x267002_2, .int .i64 x267003_2, .int .i64 x267004_2, .string x267005_2]) (rb (blk_put (cs := #[.string ((rd_T54 l0_3 0).f2), .slice none 0 0, .int .i64 x267002_2, .int .i64 x267003_2, .int .i64 x267004_2, .string x267005_2]) (rb (blk_put (cs := #[.string x267000_2, .slice none 0 0, .int .i64 x267002_2, .int .i64 x267003_2, .int .i64 x267004_2, .string x267005_2]) (rb BK266.out) 0 _ rfl)) 1 _ rfl)) 2 _ rfl)) 3 _ rfl)) 4 _ rfl)) 5 _ rfl)) Try.underlying48 rfl (by kernel_rfl)) rfl ?_
             exact ⟨_, by first | rfl | (simp [errW_none, errW_some] <;> rfl) | (simp [*, errW_none, errW_some] <;> rfl), kR (Kd.R_mono (Kd.R_far (p := ⟨gb266, 5, none⟩) (Kd.R_far (p := ⟨gb266, 4, none⟩) (Kd.R_far (p := ⟨gb266, 3, none⟩) (Kd.R_far (p := ⟨gb266, 2, none⟩) (Kd.R_far (p := ⟨gb266, 1, none⟩) (Kd.R_far (p := ⟨gb266, 0, none⟩) (Kd.R_types HO_281001.out BK266.out (by decide)) (fun _ hk => hk.2) (.string ((rd_T54 l0_3 0).f2))) (fun _ hk => hk.2) (.slice Ao81 x281001_2.length co81)) (fun _ hk => hk.2) (.int .i64 ((rd_T54 l0_3 2).f1))) (fun _ hk => hk.2) (.int .i64 ((rd_T54 l0_3 3).f1))) (fun _ hk => hk.2) (.int .i64 ((rd_T54 l0_3 4).f1))) (fun _ hk => hk.2) (.string ((rd_T54 l0_3 5).f2))) (fun _ hk => trivial)), bb⟩
         ·rw [if_neg c40] at H
          exact absurd H (by simp)
        ·rw [if_neg c39] at H
         exact absurd H (by simp)
       ·rw [if_neg c38] at H
        exact absurd H (by simp)
      ·rw [if_neg c37] at H
       exact absurd H (by simp)
     ·rw [if_neg c36] at H
      exact absurd H (by simp)
    ·rw [if_neg c35] at H
     exact absurd H (by simp)

end Go.Proofs.Ytjicfkmpgogppaa.PG
