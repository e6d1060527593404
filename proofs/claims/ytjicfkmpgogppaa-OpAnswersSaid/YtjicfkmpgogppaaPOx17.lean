-- printed by a program of this session out of the translation; see NOTES.md
import Derived.Test.YtjicfkmpgogppaaPOx0
import Derived.Test.YtjicfkmpgogppaaPOx1
import Derived.Test.YtjicfkmpgogppaaPOx8
import Derived.Test.YtjicfkmpgogppaaPOx14
import Derived.Test.YtjicfkmpgogppaaPOx16
import Derived.Test.YtjicfkmpgogppaaRb
namespace Go.Proofs.Ytjicfkmpgogppaa.PO
open Go.RowKit Go.Proofs.YtjicfkmpgogppaaW.PrintWords Go.Proofs.YtjicfkmpgogppaaW.PrintLast Go.Proofs.YtjicfkmpgogppaaW.PrintMore Go.Proofs.YtjicfkmpgogppaaRb
attribute [local go_sem] max2_int min2_int max_two min_two max_three min_three max_four min_four   -- for this text's walks alone
set_option linter.unusedVariables false
set_option linter.unusedSimpArgs false

/-! ### precinctlaw18_OpAnswers: function 9 -/
def precinctlaw18_OpAnswers.f (k : Nat) (a0 : Int) (l1 : List (S147)) : Option (Bool) := (precinctlaw18_build.f l1).bind fun bt319 => ((precinctlaw18_wakes.f k).bind fun t333 => (if t333 = true then ((op_Answer_Bytes.f k a0 bt319.1 bt319.2.1 bt319.2.2.1 bt319.2.2.2.1).bind fun t334 => ((precinctref18_Bytes.f k a0 bt319.2.2.2.2.1 bt319.2.2.2.2.2.1 bt319.2.2.2.2.2.2.1 bt319.2.2.2.2.2.2.2).bind fun t335 => (some (t334.toList == t335.toList)))) else (some false)))
theorem precinctlaw18_OpAnswers.mono : ∀ a0 a1 k, LeO (precinctlaw18_OpAnswers.f k a0 a1) (precinctlaw18_OpAnswers.f (k + 1) a0 a1) := by
 intro a0 a1 k
 unfold precinctlaw18_OpAnswers.f
 repeat' first
   | (with_reducible exact op_Answer_Bytes.mono _ _ _ _ _ _)
   | (with_reducible exact precinctlaw18_wakes.mono _)
   | (with_reducible exact precinctref18_Bytes.mono _ _ _ _ _ _)
   | (with_reducible exact LeO.refl _)
   | (with_reducible exact LeO.none _)
   | (with_reducible refine LeO.ite ?_ ?_)
   | (with_reducible refine LeO.bind ?_ (fun _ => ?_))
   | exact op_Answer_Bytes.mono _ _ _ _ _ _
   | exact precinctlaw18_wakes.mono _
   | exact precinctref18_Bytes.mono _ _ _ _ _ _
   | exact LeO.none _
   | refine LeO.ite ?_ ?_
   | refine LeO.bind ?_ (fun _ => ?_)
def precinctlaw18_OpAnswers.T2 : Bool × List (List Nat × List Nat) := (true, [([], []), ([0, 0], [0]), ([1], [1]), ([1], [1]), ([2, 3, 1], [1, 2, 3]), ([4, 1, 1], [1, 4]), ([1], [1]), ([1], [1]), ([6, 7, 1], [1, 6, 7]), ([8, 5, 1], [1, 8]), ([5, 9, 1], [1, 5, 9]), ([1, 10], [1, 10]), ([11, 9, 0, 1, 2, 3, 4, 5, 6, 7, 8, 9, 10, 11], [11])])
def precinctlaw18_OpAnswers.B2 : List Nat := [0, 1, 3, 3, 15, 31, 3, 3, 195, 511, 1023, 2047, 4095]
theorem precinctlaw18_OpAnswers.tab2 : rtab .any (opsOf Try.f9 2) = precinctlaw18_OpAnswers.T2 := by kernel_rfl
theorem precinctlaw18_OpAnswers.bits2 : waitsOk precinctlaw18_OpAnswers.T2.2 precinctlaw18_OpAnswers.B2 = true := by kernel_rfl
set_option maxHeartbeats 8000000 in
set_option maxRecDepth 100000 in
theorem precinctlaw18_OpAnswers.calls (k : Nat) (a0 : Int) (A1 : Option Addr) (c1 : Nat) (l1 : List (S147)) (r : Bool) (w : World) (hr1 : Kd.C k147 w A1 l1.length l1) (hc1 : l1.length ≤ c1) (hT_ : Aside0 (r = true)) (h : precinctlaw18_OpAnswers.f k a0 l1 = some r) :
  Calls Try.prog 9 #[.int .i64 a0, .slice A1 l1.length c1] w fun e w' => e = .returned (.bool r) ∧ Below w.heap.size w w' := by
 have hu54 := Try.underlying54
 have hu57 := Try.underlying57
 have hu82 := Try.underlying82
 have hu86 := Try.underlying86
 have HR1 := Aside0.mk hr1
 have HC1 := Aside0.mk hc1
 clear hr1 hc1
 have HB := Aside0.mk (Below.refl w.heap.size w)
 have H : ((precinctlaw18_build.f l1).bind fun bt319 => ((precinctlaw18_wakes.f k).bind fun t333 => (if t333 = true then ((op_Answer_Bytes.f k a0 bt319.1 bt319.2.1 bt319.2.2.1 bt319.2.2.2.1).bind fun t334 => ((precinctref18_Bytes.f k a0 bt319.2.2.2.2.1 bt319.2.2.2.2.2.1 bt319.2.2.2.2.2.2.1 bt319.2.2.2.2.2.2.2).bind fun t335 => (some (t334.toList == t335.toList)))) else (some false)))) = some r := h
 clear h
 replace H := Option.bind_eq_some_iff.mp H
 obtain ⟨⟨t319, t320, t321, t322, t325, t326, t327, t328⟩, A30, H⟩ := H
 replace H : ((precinctlaw18_wakes.f k).bind fun t333 => (if t333 = true then ((op_Answer_Bytes.f k a0 t319 t320 t321 t322).bind fun t334 => ((precinctref18_Bytes.f k a0 t325 t326 t327 t328).bind fun t335 => (some (t334.toList == t335.toList)))) else (some false))) = some r := H
 have A3 := Aside0.mk A30
 clear A30
 replace H := Option.bind_eq_some_iff.mp H
 obtain ⟨t333, A40, H⟩ := H
 replace H : (if t333 = true then ((op_Answer_Bytes.f k a0 t319 t320 t321 t322).bind fun t334 => ((precinctref18_Bytes.f k a0 t325 t326 t327 t328).bind fun t335 => (some (t334.toList == t335.toList)))) else (some false)) = some r := H
 have A4 := Aside0.mk A40
 clear A40
 by_cases c5 : t333 = true
 ·subst c5
  have H1 : ((op_Answer_Bytes.f k a0 t319 t320 t321 t322).bind fun t334 => ((precinctref18_Bytes.f k a0 t325 t326 t327 t328).bind fun t335 => (some (t334.toList == t335.toList)))) = some r := by rw [if_pos rfl] at H; exact H
  clear H
  have H := H1
  clear H1
  replace H := Option.bind_eq_some_iff.mp H
  obtain ⟨t334, A60, H⟩ := H
  replace H : ((precinctref18_Bytes.f k a0 t325 t326 t327 t328).bind fun t335 => (some (t334.toList == t335.toList))) = some r := H
  have A6 := Aside0.mk A60
  clear A60
  replace H := Option.bind_eq_some_iff.mp H
  obtain ⟨t335, A70, H⟩ := H
  replace H : (some (t334.toList == t335.toList)) = some r := H
  have A7 := Aside0.mk A70
  clear A70
  obtain rfl := Option.some.inj H
  go_enter Try.func9, Try.ntmps9
  try go_wp2_with (first | ((with_reducible refine gate_callee (f := 28) rfl ?_); refine goesL_ (some 9) rfl rfl Try.func28 (by kernel_rfl) rfl #[.slice A1 l1.length c1] rfl (by (try simp only [List.map_toArray, List.map_cons, List.map_nil]); first | done | rfl | (simp only [List.length_drop, List.length_take]; rfl)) ?_; (with_reducible refine (precinctlaw18_build.calls _ _ l1 t319 t320 t321 t322 t325 t326 t327 t328 _ ?side1 ?side2 A3.out).mono ?_); (case side1 => repeat (first | exact HR1.out | (with_reducible refine Kd.C_alloc ?_ _) | (with_reducible refine Kd.C_drewN ?_ _) | (with_reducible refine Kd.C_drew ?_))); (case side2 => exact HC1.out); rintro e w8 ⟨v323, v329, rfl, ho0, ho1, hb⟩; refine ⟨_, rfl, ?_⟩; have n0_ := Aside0.mk (Kd.R_lower ho0 (below_size (by repeat (first | (with_reducible first | exact HB.out | apply below_alloc | apply pw_below_drewN | apply below_drew1) | exact HB.out)))); have n1_ := Aside0.mk (Kd.R_lower ho1 (below_size (by repeat (first | (with_reducible first | exact HB.out | apply below_alloc | apply pw_below_drewN | apply below_drew1) | exact HB.out)))); have n2_ := Aside0.mk (below_step (by repeat (first | (with_reducible first | exact HB.out | apply below_alloc | apply pw_below_drewN | apply below_drew1) | exact HB.out)) hb); clear HB; have HO324 := n0_; have HO330 := n1_; have HB := n2_; clear n0_ n1_ n2_; (try clear hb); (try clear hb2); (try clear hk); (try clear hi); (try clear ho0); (try clear ho1)) | ((with_reducible refine gate_dst (N := 5) rfl ?_); refine box_event ?hg (N := 5) ?hd (cs := #[.int .i64 0, .int .i64 0, .string (⟨#[]⟩ : ByteArray), .slice none 0 0]) (t := 54) ?hr ?_; (case hd => rfl); (case hg => rfl); (case hr => first | (go_simp; done) | (go_simp; rfl)); intro gb331 hg w9 hbox hb; have n0_ := Aside0.mk (Kd.R_below (Kd.R_elderB (by (with_reducible repeat (first | apply Kd.R_alloc | apply Kd.R_drewN | apply Kd.R_drew)); exact HO324.out) gb331 (Nat.le_of_eq hg.symm)) hb); have n1_ := Aside0.mk (Kd.R_below (by (with_reducible repeat (first | apply Kd.R_alloc | apply Kd.R_drewN | apply Kd.R_drew)); exact HO330.out) hb); have n2_ := Aside0.mk (below_step (by repeat (first | (with_reducible first | exact HB.out | apply below_alloc | apply pw_below_drewN | apply below_drew1) | exact HB.out)) hb); have n3_ := Aside0.mk (hbox); have n4_ := Aside0.mk ((by rw [hg]; exact (below_size (by repeat (first | (with_reducible first | exact HB.out | apply below_alloc | apply pw_below_drewN | apply below_drew1) | exact HB.out))) : w.heap.size ≤ gb331)); have n5_ := Aside0.mk ((by rw [hg]; exact (below_size (by repeat (first | (with_reducible first | exact HB.out | apply below_alloc | apply pw_below_drewN | apply below_drew1) | exact HB.out))) : w.heap.size ≤ gb331)); clear HO324; clear HO330; clear HB; have HO324 := n0_; have HO330 := n1_; have HB := n2_; have BK331 := n3_; have GW331 := n4_; have GE331 := n5_; clear n0_ n1_ n2_ n3_ n4_ n5_; clear hb hbox hg) | ((with_reducible refine gate_dst (N := 6) rfl ?_); refine box_event ?hg (N := 6) ?hd (cs := #[.int .i64 0, .int .i64 0, .string (⟨#[]⟩ : ByteArray), .slice none 0 0]) (t := 57) ?hr ?_; (case hd => rfl); (case hg => rfl); (case hr => first | (go_simp; done) | (go_simp; rfl)); intro gb332 hg w10 hbox hb; have n0_ := Aside0.mk (Kd.R_below (by (with_reducible repeat (first | apply Kd.R_alloc | apply Kd.R_drewN | apply Kd.R_drew)); exact HO324.out) hb); have n1_ := Aside0.mk (Kd.R_below (Kd.R_elderB (by (with_reducible repeat (first | apply Kd.R_alloc | apply Kd.R_drewN | apply Kd.R_drew)); exact HO330.out) gb332 (Nat.le_of_eq hg.symm)) hb); have n2_ := Aside0.mk (blk_below (g := gb331) (o := .cells #[.int .i64 0, .int .i64 0, .string (⟨#[]⟩ : ByteArray), .slice none 0 0] 54 (0, 0)) (rb BK331.out) hb); have n3_ := Aside0.mk (below_step (by repeat (first | (with_reducible first | exact HB.out | apply below_alloc | apply pw_below_drewN | apply below_drew1 | refine below_set ?_ GE331.out) | exact HB.out)) hb); have n4_ := Aside0.mk (hbox); have n5_ := Aside0.mk ((by rw [hg]; exact (below_size (by repeat (first | (with_reducible first | exact HB.out | apply below_alloc | apply pw_below_drewN | apply below_drew1 | refine below_set ?_ GE331.out) | exact HB.out))) : w.heap.size ≤ gb332)); have n6_ := Aside0.mk ((by rw [hg]; exact (below_size (by repeat (first | (with_reducible first | exact HB.out | apply below_alloc | apply pw_below_drewN | apply below_drew1 | refine below_set ?_ GE331.out) | exact HB.out))) : w.heap.size ≤ gb332)); have n7_ := Aside0.mk ((by rw [hg]; exact Nat.ne_of_lt (blk_lt (g := gb331) (o := .cells #[.int .i64 0, .int .i64 0, .string (⟨#[]⟩ : ByteArray), .slice none 0 0] 54 (0, 0)) (rb BK331.out)) : gb331 ≠ gb332)); have n8_ := Aside0.mk ((by rw [hg]; exact Nat.ne_of_gt (blk_lt (g := gb331) (o := .cells #[.int .i64 0, .int .i64 0, .string (⟨#[]⟩ : ByteArray), .slice none 0 0] 54 (0, 0)) (rb BK331.out)) : gb332 ≠ gb331)); clear HO324; clear HO330; clear BK331; clear HB; have HO324 := n0_; have HO330 := n1_; have BK331 := n2_; have HB := n3_; have BK332 := n4_; have GW332 := n5_; have GE332 := n6_; have NB331_332 := n7_; have NB332_331 := n8_; clear n0_ n1_ n2_ n3_ n4_ n5_ n6_ n7_ n8_; clear hb hbox hg; have hnb11 := NB331_332.out; have hnc11 := NB332_331.out; have hcz12_0 : w10.cell? ⟨gb331, 0, none⟩ = some (.int .i64 0) := (blk_cell BK331.out 0).trans rfl; have hcz12_1 : w10.cell? ⟨gb331, 1, none⟩ = some (.int .i64 0) := (blk_cell BK331.out 1).trans rfl; have hcz12_2 : w10.cell? ⟨gb331, 2, none⟩ = some (.string (⟨#[]⟩ : ByteArray)) := (blk_cell BK331.out 2).trans rfl; have hcz12_3 : w10.cell? ⟨gb331, 3, none⟩ = some (.slice none 0 0) := (blk_cell BK331.out 3).trans rfl; have hfz12_0 := blk_frozen BK331.out 0; have hfz12_1 := blk_frozen BK331.out 1; have hfz12_2 := blk_frozen BK331.out 2; have hfz12_3 := blk_frozen BK331.out 3; obtain ⟨Ao13, co13, eo13⟩ := Kd.R_slice HO324.out; subst eo13; have hcz14_0 : w10.cell? ⟨gb332, 0, none⟩ = some (.int .i64 0) := (blk_cell BK332.out 0).trans rfl; have hcz14_1 : w10.cell? ⟨gb332, 1, none⟩ = some (.int .i64 0) := (blk_cell BK332.out 1).trans rfl; have hcz14_2 : w10.cell? ⟨gb332, 2, none⟩ = some (.string (⟨#[]⟩ : ByteArray)) := (blk_cell BK332.out 2).trans rfl; have hcz14_3 : w10.cell? ⟨gb332, 3, none⟩ = some (.slice none 0 0) := (blk_cell BK332.out 3).trans rfl; have hfz14_0 := blk_frozen BK332.out 0; have hfz14_1 := blk_frozen BK332.out 1; have hfz14_2 := blk_frozen BK332.out 2; have hfz14_3 := blk_frozen BK332.out 3; obtain ⟨Ao15, co15, eo15⟩ := Kd.R_slice HO330.out; subst eo15))
  have n0_ : Aside0 (Kd.R k54 54 ((((((((w10.setCell ⟨gb331, 0, none⟩ (.int .i64 t319)).setCell ⟨gb331, 1, none⟩ (.int .i64 t320)).setCell ⟨gb331, 2, none⟩ (.string t321)).setCell ⟨gb331, 3, none⟩ (.slice Ao13 t322.length co13)).setCell ⟨gb332, 0, none⟩ (.int .i64 t325)).setCell ⟨gb332, 1, none⟩ (.int .i64 t326)).setCell ⟨gb332, 2, none⟩ (.string t327)).setCell ⟨gb332, 3, none⟩ (.slice Ao15 t328.length co15)) w.heap.size (fun k_ => k_ ≠ gb331) (.slice Ao13 t322.length co13) t322) := ⟨by (with_reducible repeat (first | apply Kd.R_alloc | apply Kd.R_drewN | apply Kd.R_drew)); exact Kd.R_mono (Kd.R_far (p := ⟨gb332, 3, none⟩) (Kd.R_far (p := ⟨gb332, 2, none⟩) (Kd.R_far (p := ⟨gb332, 1, none⟩) (Kd.R_far (p := ⟨gb332, 0, none⟩) (Kd.R_far (p := ⟨gb331, 3, none⟩) (Kd.R_far (p := ⟨gb331, 2, none⟩) (Kd.R_far (p := ⟨gb331, 1, none⟩) (Kd.R_far (p := ⟨gb331, 0, none⟩) (Kd.R_types (Kd.R_mono HO324.out (fun k_ hk => (⟨hk, hk.2⟩ : _ ∧ k_ ≠ gb331))) BK332.out (by decide)) (fun _ hk => hk.1.2) (.int .i64 t319)) (fun _ hk => hk.1.2) (.int .i64 t320)) (fun _ hk => hk.1.2) (.string t321)) (fun _ hk => hk.1.2) (.slice Ao13 t322.length co13)) (fun _ hk => hk.2) (.int .i64 t325)) (fun _ hk => hk.2) (.int .i64 t326)) (fun _ hk => hk.2) (.string t327)) (fun _ hk => hk.2) (.slice Ao15 t328.length co15)) (fun _ hk => hk.1.1.2)⟩
  have n1_ : Aside0 (Kd.R k57 57 ((((((((w10.setCell ⟨gb331, 0, none⟩ (.int .i64 t319)).setCell ⟨gb331, 1, none⟩ (.int .i64 t320)).setCell ⟨gb331, 2, none⟩ (.string t321)).setCell ⟨gb331, 3, none⟩ (.slice Ao13 t322.length co13)).setCell ⟨gb332, 0, none⟩ (.int .i64 t325)).setCell ⟨gb332, 1, none⟩ (.int .i64 t326)).setCell ⟨gb332, 2, none⟩ (.string t327)).setCell ⟨gb332, 3, none⟩ (.slice Ao15 t328.length co15)) w.heap.size (fun k_ => k_ ≠ gb332) (.slice Ao15 t328.length co15) t328) := ⟨by (with_reducible repeat (first | apply Kd.R_alloc | apply Kd.R_drewN | apply Kd.R_drew)); exact Kd.R_mono (Kd.R_far (p := ⟨gb332, 3, none⟩) (Kd.R_far (p := ⟨gb332, 2, none⟩) (Kd.R_far (p := ⟨gb332, 1, none⟩) (Kd.R_far (p := ⟨gb332, 0, none⟩) (Kd.R_far (p := ⟨gb331, 3, none⟩) (Kd.R_far (p := ⟨gb331, 2, none⟩) (Kd.R_far (p := ⟨gb331, 1, none⟩) (Kd.R_far (p := ⟨gb331, 0, none⟩) (Kd.R_mono (Kd.R_types HO330.out BK331.out (by decide)) (fun k_ hk => (⟨hk, hk.1.2⟩ : _ ∧ k_ ≠ gb332))) (fun _ hk => hk.1.2) (.int .i64 t319)) (fun _ hk => hk.1.2) (.int .i64 t320)) (fun _ hk => hk.1.2) (.string t321)) (fun _ hk => hk.1.2) (.slice Ao13 t322.length co13)) (fun _ hk => hk.2) (.int .i64 t325)) (fun _ hk => hk.2) (.int .i64 t326)) (fun _ hk => hk.2) (.string t327)) (fun _ hk => hk.2) (.slice Ao15 t328.length co15)) (fun _ hk => hk.1.1.2)⟩
  have n2_ : Aside0 (((((((((w10.setCell ⟨gb331, 0, none⟩ (.int .i64 t319)).setCell ⟨gb331, 1, none⟩ (.int .i64 t320)).setCell ⟨gb331, 2, none⟩ (.string t321)).setCell ⟨gb331, 3, none⟩ (.slice Ao13 t322.length co13)).setCell ⟨gb332, 0, none⟩ (.int .i64 t325)).setCell ⟨gb332, 1, none⟩ (.int .i64 t326)).setCell ⟨gb332, 2, none⟩ (.string t327)).setCell ⟨gb332, 3, none⟩ (.slice Ao15 t328.length co15)).heap[gb331]? = some (.cells #[.int .i64 t319, .int .i64 t320, .string t321, .slice Ao13 t322.length co13] 54 (0, 0))) := ⟨by (with_reducible repeat (first | refine blk_drewN ?_ _ | refine blk_drew ?_ | refine blk_alloc ?_ _)); refine blk_far ?_ NB331_332.out _; (with_reducible repeat (first | refine blk_drewN ?_ _ | refine blk_drew ?_ | refine blk_alloc ?_ _)); refine blk_far ?_ NB331_332.out _; (with_reducible repeat (first | refine blk_drewN ?_ _ | refine blk_drew ?_ | refine blk_alloc ?_ _)); refine blk_far ?_ NB331_332.out _; (with_reducible repeat (first | refine blk_drewN ?_ _ | refine blk_drew ?_ | refine blk_alloc ?_ _)); refine blk_far ?_ NB331_332.out _; (with_reducible repeat (first | refine blk_drewN ?_ _ | refine blk_drew ?_ | refine blk_alloc ?_ _)); refine blk_put (cs := #[.int .i64 t319, .int .i64 t320, .string t321, .slice none 0 0]) ?_ 3 _ rfl; (with_reducible repeat (first | refine blk_drewN ?_ _ | refine blk_drew ?_ | refine blk_alloc ?_ _)); refine blk_put (cs := #[.int .i64 t319, .int .i64 t320, .string (⟨#[]⟩ : ByteArray), .slice none 0 0]) ?_ 2 _ rfl; (with_reducible repeat (first | refine blk_drewN ?_ _ | refine blk_drew ?_ | refine blk_alloc ?_ _)); refine blk_put (cs := #[.int .i64 t319, .int .i64 0, .string (⟨#[]⟩ : ByteArray), .slice none 0 0]) ?_ 1 _ rfl; (with_reducible repeat (first | refine blk_drewN ?_ _ | refine blk_drew ?_ | refine blk_alloc ?_ _)); refine blk_put (cs := #[.int .i64 0, .int .i64 0, .string (⟨#[]⟩ : ByteArray), .slice none 0 0]) ?_ 0 _ rfl; (with_reducible repeat (first | refine blk_drewN ?_ _ | refine blk_drew ?_ | refine blk_alloc ?_ _)); exact BK331.out⟩
  have n3_ : Aside0 (((((((((w10.setCell ⟨gb331, 0, none⟩ (.int .i64 t319)).setCell ⟨gb331, 1, none⟩ (.int .i64 t320)).setCell ⟨gb331, 2, none⟩ (.string t321)).setCell ⟨gb331, 3, none⟩ (.slice Ao13 t322.length co13)).setCell ⟨gb332, 0, none⟩ (.int .i64 t325)).setCell ⟨gb332, 1, none⟩ (.int .i64 t326)).setCell ⟨gb332, 2, none⟩ (.string t327)).setCell ⟨gb332, 3, none⟩ (.slice Ao15 t328.length co15)).heap[gb332]? = some (.cells #[.int .i64 t325, .int .i64 t326, .string t327, .slice Ao15 t328.length co15] 57 (0, 0))) := ⟨by (with_reducible repeat (first | refine blk_drewN ?_ _ | refine blk_drew ?_ | refine blk_alloc ?_ _)); refine blk_put (cs := #[.int .i64 t325, .int .i64 t326, .string t327, .slice none 0 0]) ?_ 3 _ rfl; (with_reducible repeat (first | refine blk_drewN ?_ _ | refine blk_drew ?_ | refine blk_alloc ?_ _)); refine blk_put (cs := #[.int .i64 t325, .int .i64 t326, .string (⟨#[]⟩ : ByteArray), .slice none 0 0]) ?_ 2 _ rfl; (with_reducible repeat (first | refine blk_drewN ?_ _ | refine blk_drew ?_ | refine blk_alloc ?_ _)); refine blk_put (cs := #[.int .i64 t325, .int .i64 0, .string (⟨#[]⟩ : ByteArray), .slice none 0 0]) ?_ 1 _ rfl; (with_reducible repeat (first | refine blk_drewN ?_ _ | refine blk_drew ?_ | refine blk_alloc ?_ _)); refine blk_put (cs := #[.int .i64 0, .int .i64 0, .string (⟨#[]⟩ : ByteArray), .slice none 0 0]) ?_ 0 _ rfl; (with_reducible repeat (first | refine blk_drewN ?_ _ | refine blk_drew ?_ | refine blk_alloc ?_ _)); refine blk_far ?_ NB332_331.out _; (with_reducible repeat (first | refine blk_drewN ?_ _ | refine blk_drew ?_ | refine blk_alloc ?_ _)); refine blk_far ?_ NB332_331.out _; (with_reducible repeat (first | refine blk_drewN ?_ _ | refine blk_drew ?_ | refine blk_alloc ?_ _)); refine blk_far ?_ NB332_331.out _; (with_reducible repeat (first | refine blk_drewN ?_ _ | refine blk_drew ?_ | refine blk_alloc ?_ _)); refine blk_far ?_ NB332_331.out _; (with_reducible repeat (first | refine blk_drewN ?_ _ | refine blk_drew ?_ | refine blk_alloc ?_ _)); exact BK332.out⟩
  have n4_ : Aside0 (Below w.heap.size w ((((((((w10.setCell ⟨gb331, 0, none⟩ (.int .i64 t319)).setCell ⟨gb331, 1, none⟩ (.int .i64 t320)).setCell ⟨gb331, 2, none⟩ (.string t321)).setCell ⟨gb331, 3, none⟩ (.slice Ao13 t322.length co13)).setCell ⟨gb332, 0, none⟩ (.int .i64 t325)).setCell ⟨gb332, 1, none⟩ (.int .i64 t326)).setCell ⟨gb332, 2, none⟩ (.string t327)).setCell ⟨gb332, 3, none⟩ (.slice Ao15 t328.length co15))) := ⟨by repeat (first | (with_reducible first | exact HB.out | apply below_alloc | apply pw_below_drewN | apply below_drew1 | refine below_set ?_ GE331.out | refine below_set ?_ GE332.out) | exact HB.out)⟩
  (try clear HO324)
  (try clear HO330)
  (try clear BK331)
  (try clear BK332)
  (try clear HB)
  generalize ((((((((w10.setCell ⟨gb331, 0, none⟩ (.int .i64 t319)).setCell ⟨gb331, 1, none⟩ (.int .i64 t320)).setCell ⟨gb331, 2, none⟩ (.string t321)).setCell ⟨gb331, 3, none⟩ (.slice Ao13 t322.length co13)).setCell ⟨gb332, 0, none⟩ (.int .i64 t325)).setCell ⟨gb332, 1, none⟩ (.int .i64 t326)).setCell ⟨gb332, 2, none⟩ (.string t327)).setCell ⟨gb332, 3, none⟩ (.slice Ao15 t328.length co15)) = w16 at n0_ n1_ n2_ n3_ n4_ ⊢
  have HO324 := n0_
  have HO330 := n1_
  have BK331 := n2_
  have BK332 := n3_
  have HB := n4_
  clear n0_ n1_ n2_ n3_ n4_
  have n0_ := Aside0.mk (Kd.R_drew HO324.out)
  have n1_ := Aside0.mk (Kd.R_drew HO330.out)
  have n2_ := Aside0.mk (blk_drew BK331.out)
  have n3_ := Aside0.mk (blk_drew BK332.out)
  have n4_ := Aside0.mk (below_drew1 HB.out)
  clear HO324
  clear HO330
  clear BK331
  clear BK332
  clear HB
  have HO324 := n0_
  have HO330 := n1_
  have BK331 := n2_
  have BK332 := n3_
  have HB := n4_
  clear n0_ n1_ n2_ n3_ n4_
  refine start_ (n := 13) (S := fun w' => w'.cell? ⟨gb331, 0, none⟩ = some (.int .i64 t319) ∧ w'.cell? ⟨gb331, 1, none⟩ = some (.int .i64 t320) ∧ w'.cell? ⟨gb331, 2, none⟩ = some (.string t321) ∧ w'.cell? ⟨gb331, 3, none⟩ = some (.slice Ao13 t322.length co13) ∧ w'.cell? ⟨gb332, 0, none⟩ = some (.int .i64 t325) ∧ w'.cell? ⟨gb332, 1, none⟩ = some (.int .i64 t326) ∧ w'.cell? ⟨gb332, 2, none⟩ = some (.string t327) ∧ w'.cell? ⟨gb332, 3, none⟩ = some (.slice Ao15 t328.length co15)) (ds := []) #[false, false, false, false, false, false, false, false, false, false, false, false, false] (by kernel_rfl) rfl rfl ⟨(blk_cell BK331.out 0).trans rfl, (blk_cell BK331.out 1).trans rfl, (blk_cell BK331.out 2).trans rfl, (blk_cell BK331.out 3).trans rfl, (blk_cell BK332.out 0).trans rfl, (blk_cell BK332.out 1).trans rfl, (blk_cell BK332.out 2).trans rfl, (blk_cell BK332.out 3).trans rfl⟩ (fun hHeld => ?_); refine with_tabW precinctlaw18_OpAnswers.tab2 precinctlaw18_OpAnswers.bits2 (fun HT_ HW_ => ?_)
  generalize w16.drew = w17 at HO324 HO330 BK331 BK332 HB hHeld ⊢
  refine one_ (i := 0) (N := some 12) #[true, false, false, false, false, false, false, false, false, false, false, false, false] rfl rfl (one_of HT_.out (by kernel_rfl)) (by decide) (fun K hK => ?_)
  refine goes_ Try.func31 (by kernel_rfl) rfl #[] (by rfl) rfl rfl (by (try simp only [List.map_toArray, List.map_cons, List.map_nil]); first | done | rfl | (simp only [List.length_drop, List.length_take]; rfl)) ?_
  with_reducible refine (precinctlaw18_wakes.calls k  true _ A4.out).mono ?_
  rintro e w18 ⟨rfl, hb⟩
  refine ⟨_, rfl, ?_⟩
  have n0_ := Aside0.mk (Kd.R_below (by (with_reducible repeat (first | apply Kd.R_alloc | apply Kd.R_drewN | apply Kd.R_drew)); exact HO324.out) hb)
  have n1_ := Aside0.mk (Kd.R_below (by (with_reducible repeat (first | apply Kd.R_alloc | apply Kd.R_drewN | apply Kd.R_drew)); exact HO330.out) hb)
  have n2_ := Aside0.mk (blk_below (rb BK331.out) hb)
  have n3_ := Aside0.mk (blk_below (rb BK332.out) hb)
  have n4_ := Aside0.mk (below_step (by repeat (first | (with_reducible first | exact HB.out | apply below_alloc | apply pw_below_drewN | apply below_drew1 | refine below_set ?_ GE331.out | refine below_set ?_ GE332.out) | exact HB.out)) hb)
  clear HO324
  clear HO330
  clear BK331
  clear BK332
  clear HB
  have HO324 := n0_
  have HO330 := n1_
  have BK331 := n2_
  have BK332 := n3_
  have HB := n4_
  clear n0_ n1_ n2_ n3_ n4_
  (try clear hb)
  (try clear hb2)
  (try clear hk)
  (try clear hi)
  refine hK.out _ _ ⟨(blk_cell BK331.out 0).trans rfl, (blk_cell BK331.out 1).trans rfl, (blk_cell BK331.out 2).trans rfl, (blk_cell BK331.out 3).trans rfl, (blk_cell BK332.out 0).trans rfl, (blk_cell BK332.out 1).trans rfl, (blk_cell BK332.out 2).trans rfl, (blk_cell BK332.out 3).trans rfl⟩ (fun hHeld => ?_)
  clear hK K
  refine norm_ (a' := ?_) ?_ ?_
  rotate_left
  ·show Act.put _ (some 12) _ = _
   simp only [Act.put, List.setIfInBounds_toArray, List.set_cons_zero, List.set_cons_succ, i64_w, i32_w]
   rfl
  refine pure_ (i := 1) (N := some 13) (v := ?_) (a' := ?_) #[true, true, false, false, false, false, false, false, false, false, false, false, false] rfl rfl (any_of HT_.out (by kernel_rfl)) (fun _ _ _ h => h) (Or.inl ⟨by rfl, ?_⟩) ?_ ?_
  rotate_left
  ·intro w'
   go_simp
   with_reducible rfl
  rotate_left
  ·simp only [Act.put, List.setIfInBounds_toArray, List.set_cons_zero, List.set_cons_succ, i64_w, i32_w]
   rfl
  refine pure_ (i := 2) (N := some 14) (v := ?_) (a' := ?_) #[true, true, true, false, false, false, false, false, false, false, false, false, false] rfl rfl (any_of HT_.out (by kernel_rfl)) (fun _ _ _ h => h) (Or.inl ⟨by rfl, ?_⟩) ?_ ?_
  rotate_left
  ·intro w'
   go_simp
   with_reducible rfl
  rotate_left
  ·simp only [Act.put, List.setIfInBounds_toArray, List.set_cons_zero, List.set_cons_succ, i64_w, i32_w]
   rfl
  refine pure_ (i := 6) (N := some 18) (v := ?_) (a' := ?_) #[true, true, true, false, false, false, true, false, false, false, false, false, false] rfl rfl (any_of HT_.out (by kernel_rfl)) (fun _ _ _ h => h) (Or.inl ⟨by rfl, ?_⟩) ?_ ?_
  rotate_left
  ·intro w'
   go_simp
   with_reducible rfl
  rotate_left
  ·simp only [Act.put, List.setIfInBounds_toArray, List.set_cons_zero, List.set_cons_succ, i64_w, i32_w]
   rfl
  refine take_ (i := 3) (N := some 15) (v := ?_) (a' := ?_) #[true, true, true, true, false, false, true, false, false, false, false, false, false] rfl rfl (take_ofW HT_.out HW_.out (by kernel_rfl)) (fun _ _ _ h => h) (Or.inl ⟨by rfl, ?_⟩) hHeld ?_ ?_
  rotate_left
  ·rintro w' ⟨s0, s1, s2, s3, s4, s5, s6, s7⟩
   go_simp
   with_reducible rfl
  rotate_left
  ·simp only [Act.put, List.setIfInBounds_toArray, List.set_cons_zero, List.set_cons_succ, i64_w, i32_w]
   rfl
  refine pure_ (i := 4) (N := some 16) (v := ?_) (a' := ?_) #[true, true, true, true, true, false, true, false, false, false, false, false, false] rfl rfl (any_of HT_.out (by kernel_rfl)) (fun _ _ _ h => h) (Or.inl ⟨by rfl, ?_⟩) ?_ ?_
  rotate_left
  ·intro w'
   go_simp
   with_reducible rfl
  rotate_left
  ·simp only [Act.put, List.setIfInBounds_toArray, List.set_cons_zero, List.set_cons_succ, i64_w, i32_w]
   rfl
  refine take_ (i := 7) (N := some 19) (v := ?_) (a' := ?_) #[true, true, true, true, true, false, true, true, false, false, false, false, false] rfl rfl (take_ofW HT_.out HW_.out (by kernel_rfl)) (fun _ _ _ h => h) (Or.inl ⟨by rfl, ?_⟩) hHeld ?_ ?_
  rotate_left
  ·rintro w' ⟨s0, s1, s2, s3, s4, s5, s6, s7⟩
   go_simp
   with_reducible rfl
  rotate_left
  ·simp only [Act.put, List.setIfInBounds_toArray, List.set_cons_zero, List.set_cons_succ, i64_w, i32_w]
   rfl
  refine pure_ (i := 8) (N := some 20) (v := ?_) (a' := ?_) #[true, true, true, true, true, false, true, true, true, false, false, false, false] rfl rfl (any_of HT_.out (by kernel_rfl)) (fun _ _ _ h => h) (Or.inl ⟨by rfl, ?_⟩) ?_ ?_
  rotate_left
  ·intro w'
   go_simp
   with_reducible rfl
  rotate_left
  ·simp only [Act.put, List.setIfInBounds_toArray, List.set_cons_zero, List.set_cons_succ, i64_w, i32_w]
   rfl
  refine one_ (i := 5) (N := some 17) #[true, true, true, true, true, true, true, true, true, false, false, false, false] rfl rfl (one_of HT_.out (by kernel_rfl)) (by decide) (fun K hK => ?_)
  refine goes_ Try.func32 (by kernel_rfl) rfl #[.agg #[.int .i64 a0, .int .i64 t319, .int .i64 t320, .string t321, .slice Ao13 t322.length co13]] (by rfl) rfl rfl (by (try simp only [List.map_toArray, List.map_cons, List.map_nil]); first | done | rfl | (simp only [List.length_drop, List.length_take]; rfl)) ?_
  with_reducible refine (op_Answer_Bytes.calls k a0 t319 t320 t321 (fun k_ => ((k_ ≠ gb331 ∧ some k_ ≠ (.slice Ao15 t328.length co15 : Value).ownBlock) ∧ k_ ≠ gb332)) _ _ t322 t334 _ ?side1 A6.out).mono ?_
  (case side1 => exact Kd.R_V (Kd.R_types (Kd.R_apart' (HO324.out) (Kd.R_typed HO330.out) (by decide)) BK332.out (by decide)))
  rintro e w19 ⟨rfl, hb⟩
  refine ⟨_, rfl, ?_⟩
  have n0_ := Aside0.mk (Kd.R_below (by (with_reducible repeat (first | apply Kd.R_alloc | apply Kd.R_drewN | apply Kd.R_drew)); exact HO324.out) hb)
  have n1_ := Aside0.mk (Kd.R_below (by (with_reducible repeat (first | apply Kd.R_alloc | apply Kd.R_drewN | apply Kd.R_drew)); exact HO330.out) hb)
  have n2_ := Aside0.mk (blk_below (rb BK331.out) hb)
  have n3_ := Aside0.mk (blk_below (rb BK332.out) hb)
  have n4_ := Aside0.mk (below_step (by repeat (first | (with_reducible first | exact HB.out | apply below_alloc | apply pw_below_drewN | apply below_drew1 | refine below_set ?_ GE331.out | refine below_set ?_ GE332.out) | exact HB.out)) hb)
  clear HO324
  clear HO330
  clear BK331
  clear BK332
  clear HB
  have HO324 := n0_
  have HO330 := n1_
  have BK331 := n2_
  have BK332 := n3_
  have HB := n4_
  clear n0_ n1_ n2_ n3_ n4_
  (try clear hb)
  (try clear hb2)
  (try clear hk)
  (try clear hi)
  refine hK.out _ _ ⟨(blk_cell BK331.out 0).trans rfl, (blk_cell BK331.out 1).trans rfl, (blk_cell BK331.out 2).trans rfl, (blk_cell BK331.out 3).trans rfl, (blk_cell BK332.out 0).trans rfl, (blk_cell BK332.out 1).trans rfl, (blk_cell BK332.out 2).trans rfl, (blk_cell BK332.out 3).trans rfl⟩ (fun hHeld => ?_)
  clear hK K
  refine norm_ (a' := ?_) ?_ ?_
  rotate_left
  ·show Act.put _ (some 17) _ = _
   simp only [Act.put, List.setIfInBounds_toArray, List.set_cons_zero, List.set_cons_succ, i64_w, i32_w]
   rfl
  refine one_ (i := 9) (N := some 21) #[true, true, true, true, true, true, true, true, true, true, false, false, false] rfl rfl (one_of HT_.out (by kernel_rfl)) (by decide) (fun K hK => ?_)
  refine goes_ Try.func33 (by kernel_rfl) rfl #[.agg #[.int .i64 a0, .int .i64 t325, .int .i64 t326, .string t327, .slice Ao15 t328.length co15]] (by rfl) rfl rfl (by (try simp only [List.map_toArray, List.map_cons, List.map_nil]); first | done | rfl | (simp only [List.length_drop, List.length_take]; rfl)) ?_
  with_reducible refine (precinctref18_Bytes.calls k a0 t325 t326 t327 _ _ t328 t335 _ ?side1 ?side2 A7.out).mono ?_
  (case side1 => repeat (first | exact (Kd.R_reads' HO330.out).2.2 | (with_reducible refine Kd.C_alloc ?_ _) | (with_reducible refine Kd.C_drewN ?_ _) | (with_reducible refine Kd.C_drew ?_)))
  (case side2 => exact (Kd.R_reads' HO330.out).2.1)
  rintro e w20 ⟨rfl, hb⟩
  refine ⟨_, rfl, ?_⟩
  have n0_ := Aside0.mk (Kd.R_below (by (with_reducible repeat (first | apply Kd.R_alloc | apply Kd.R_drewN | apply Kd.R_drew)); exact HO324.out) hb)
  have n1_ := Aside0.mk (Kd.R_below (by (with_reducible repeat (first | apply Kd.R_alloc | apply Kd.R_drewN | apply Kd.R_drew)); exact HO330.out) hb)
  have n2_ := Aside0.mk (blk_below (rb BK331.out) hb)
  have n3_ := Aside0.mk (blk_below (rb BK332.out) hb)
  have n4_ := Aside0.mk (below_step (by repeat (first | (with_reducible first | exact HB.out | apply below_alloc | apply pw_below_drewN | apply below_drew1 | refine below_set ?_ GE331.out | refine below_set ?_ GE332.out) | exact HB.out)) hb)
  clear HO324
  clear HO330
  clear BK331
  clear BK332
  clear HB
  have HO324 := n0_
  have HO330 := n1_
  have BK331 := n2_
  have BK332 := n3_
  have HB := n4_
  clear n0_ n1_ n2_ n3_ n4_
  (try clear hb)
  (try clear hb2)
  (try clear hk)
  (try clear hi)
  refine hK.out _ _ ⟨(blk_cell BK331.out 0).trans rfl, (blk_cell BK331.out 1).trans rfl, (blk_cell BK331.out 2).trans rfl, (blk_cell BK331.out 3).trans rfl, (blk_cell BK332.out 0).trans rfl, (blk_cell BK332.out 1).trans rfl, (blk_cell BK332.out 2).trans rfl, (blk_cell BK332.out 3).trans rfl⟩ (fun hHeld => ?_)
  clear hK K
  refine norm_ (a' := ?_) ?_ ?_
  rotate_left
  ·show Act.put _ (some 21) _ = _
   simp only [Act.put, List.setIfInBounds_toArray, List.set_cons_zero, List.set_cons_succ, i64_w, i32_w]
   rfl
  refine pure_ (i := 10) (N := some 22) (v := ?_) (a' := ?_) #[true, true, true, true, true, true, true, true, true, true, true, false, false] rfl rfl (any_of HT_.out (by kernel_rfl)) (fun _ _ _ h => h) (Or.inl ⟨by rfl, ?_⟩) ?_ ?_
  rotate_left
  ·intro w'
   go_simp
   with_reducible rfl
  rotate_left
  ·simp only [Act.put, List.setIfInBounds_toArray, List.set_cons_zero, List.set_cons_succ, i64_w, i32_w]
   rfl
  refine pure_ (i := 11) (N := some 23) (v := ?_) (a' := ?_) #[true, true, true, true, true, true, true, true, true, true, true, true, false] rfl rfl (any_of HT_.out (by kernel_rfl)) (fun _ _ _ h => h) (Or.inl ⟨by rfl, ?_⟩) ?_ ?_
  rotate_left
  ·intro w'
   go_simp
   with_reducible rfl
  rotate_left
  ·simp only [Act.put, List.setIfInBounds_toArray, List.set_cons_zero, List.set_cons_succ, i64_w, i32_w]
   rfl
  refine pure_ (i := 12) (N := some 4) (v := ?_) (a' := ?_) #[true, true, true, true, true, true, true, true, true, true, true, true, true] rfl rfl (any_of HT_.out (by kernel_rfl)) (fun _ _ _ h => h) (Or.inl ⟨by rfl, ?_⟩) ?_ ?_
  rotate_left
  ·intro w'
   go_simp
   with_reducible rfl
  rotate_left
  ·simp only [Act.put, List.setIfInBounds_toArray, List.set_cons_zero, List.set_cons_succ, i64_w, i32_w]
   rfl
  refine done_ (done_of HT_.out (by kernel_rfl)) ?_
  try go_wp2
  go_ret
  exact ⟨by first | rfl | (simp [errW_none, errW_some] <;> rfl) | (simp [*, errW_none, errW_some] <;> rfl), by repeat (first | (with_reducible first | exact HB.out | apply below_alloc | apply pw_below_drewN | apply below_drew1 | refine below_set ?_ GE331.out | refine below_set ?_ GE332.out) | exact HB.out)⟩
 ·replace c5 := Bool.eq_false_iff.mpr c5
  subst c5
  have H1 : (some false) = some r := by rw [if_neg (show ¬ (false = true) by decide)] at H; exact H
  clear H
  have H := H1
  clear H1
  exact absurd ((Option.some.inj H).trans hT_.out) (by decide)

end Go.Proofs.Ytjicfkmpgogppaa.PO
