/-
  The document's reader of a value and the plain reader are one.
-/
import Derived.Test.YtpbnfnaebdmagaaDoorH1
import Derived.Test.YtpbnfnaebdmagaaDoorPTx16
import Derived.Test.YtpbnfnaebdmagaaDoorH0
import Derived.Test.YtpbnfnaebdmagaaDoorH2
-- printed by a program of this session out of the translation; see NOTES.md
namespace Go.Proofs.YtpbnfnaebdmagaaDoor.PT
open Go.RowKit Go.Proofs.YtpbnfnaebdmagaaDoorW.PrintWords Go.Proofs.YtpbnfnaebdmagaaDoorW.PrintLast Go.Proofs.YtpbnfnaebdmagaaDoorW.PrintMore Go.Proofs.YtpbnfnaebdmagaaDoorRb
attribute [local go_sem] max2_int min2_int max_two min_two max_three min_three max_four min_four   -- for this text's walks alone
set_option linter.unusedVariables false
set_option linter.unusedSimpArgs false

/-! ### precinctref02_Get: function 22 -/
def precinctref02_Get.f (k : Nat) (a0 : ByteArray) : Option (Int × Int × ByteArray × (List (S58)) × Int) := (precinctref02_read.f k a0 0 0).bind fun bt218 => (if bt218.2.2.2.2.2 = 0 then (if bt218.2.2.2.2.1 < (a0.size : Int) then (some (0, 0, (⟨#[]⟩ : ByteArray), ([] : List (S58)), 4)) else (some (bt218.1, bt218.2.1, bt218.2.2.1, bt218.2.2.2.1, 0))) else (some (0, 0, (⟨#[]⟩ : ByteArray), ([] : List (S58)), bt218.2.2.2.2.2)))
theorem precinctref02_Get.mono : ∀ a0 k, LeO (precinctref02_Get.f k a0) (precinctref02_Get.f (k + 1) a0) := by
 intro a0 k
 unfold precinctref02_Get.f
 repeat' first
   | (with_reducible exact precinctref02_read.mono _ _ _ _)
   | (with_reducible exact LeO.refl _)
   | (with_reducible exact LeO.none _)
   | (with_reducible refine LeO.ite ?_ ?_)
   | (with_reducible refine LeO.bind ?_ (fun _ => ?_))
   | exact precinctref02_read.mono _ _ _ _
   | exact LeO.none _
   | refine LeO.ite ?_ ?_
   | refine LeO.bind ?_ (fun _ => ?_)
set_option maxHeartbeats 8000000 in
set_option maxRecDepth 100000 in
theorem precinctref02_Get.calls (k : Nat) (a0 : ByteArray) (r1 : Int) (r2 : Int) (r3 : ByteArray) (r4 : List (S58)) (r5 : Int) (w : World) (h : precinctref02_Get.f k a0 = some (r1, r2, r3, r4, r5)) :
  Calls Tryd.prog 22 #[.string a0] w fun e w' => ∃ v3_ : Value, e = .returned (.tuple #[.agg #[.int .i64 r1, .int .i64 r2, .string r3, v3_], .int .i64 r5]) ∧ Kd.R k58 58 w' w.heap.size (fun _ => True) v3_ r4 ∧ Below w.heap.size w w' := by
 have hu58 := Tryd.underlying58
 have HB := Aside0.mk (Below.refl w.heap.size w)
 have H : ((precinctref02_read.f k a0 0 0).bind fun bt218 => (if bt218.2.2.2.2.2 = 0 then (if bt218.2.2.2.2.1 < (a0.size : Int) then (some (0, 0, (⟨#[]⟩ : ByteArray), ([] : List (S58)), 4)) else (some (bt218.1, bt218.2.1, bt218.2.2.1, bt218.2.2.2.1, 0))) else (some (0, 0, (⟨#[]⟩ : ByteArray), ([] : List (S58)), bt218.2.2.2.2.2)))) = some (r1, r2, r3, r4, r5) := h
 clear h
 replace H := Option.bind_eq_some_iff.mp H
 obtain ⟨⟨t218, t219, t220, t221, t224, t225⟩, A20, H⟩ := H
 replace H : (if t225 = 0 then (if t224 < (a0.size : Int) then (some (0, 0, (⟨#[]⟩ : ByteArray), ([] : List (S58)), 4)) else (some (t218, t219, t220, t221, 0))) else (some (0, 0, (⟨#[]⟩ : ByteArray), ([] : List (S58)), t225))) = some (r1, r2, r3, r4, r5) := H
 have A2 := Aside0.mk A20
 clear A20
 by_cases c3 : t225 = 0
 ·rw [if_pos c3] at H
  have c3b0 : (t225 == 0) = true := beq_iff_eq.mpr c3
  have c3b1 : (t225 != 0) = false := bne_eq_false_iff_eq.mpr c3
  clear c3
  by_cases c4 : t224 < (a0.size : Int)
  ·rw [if_pos c4] at H
   have c4b0 : decide (t224 < (a0.size : Int)) = true := decide_eq_true c4
   clear c4
   simp only [Option.some.injEq, Prod.mk.injEq] at H
   obtain ⟨rfl, rfl, rfl, rfl, rfl⟩ := H
   go_enter Tryd.func22, Tryd.ntmps22
   go_wp2_with (first | ((with_reducible refine gate_dst (N := 2) rfl ?_); refine box_event ?hg (N := 2) ?hd (cs := #[.int .i64 0, .int .i64 0, .string (⟨#[]⟩ : ByteArray), .slice none 0 0]) (t := 58) ?hr ?_; (case hd => rfl); (case hg => rfl); (case hr => first | (go_simp; done) | (go_simp; rfl)); intro gb217 hg w5 hbox hb; have n0_ := Aside0.mk (below_step bb hb); have n1_ := Aside0.mk (hbox); have n2_ := Aside0.mk ((by rw [hg]; exact (below_size bb) : w.heap.size ≤ gb217)); have n3_ := Aside0.mk ((by rw [hg]; exact (below_size bb) : w.heap.size ≤ gb217)); clear HB; have HB := n0_; have BK217 := n1_; have GW217 := n2_; have GE217 := n3_; clear n0_ n1_ n2_ n3_; clear hb hbox hg) | ((with_reducible refine gate_callee (f := 36) rfl ?_); refine goesL_ (some 9) rfl rfl Tryd.func36 (by kernel_rfl) rfl #[.string a0, .int .i64 0, .int .i64 0] rfl ag ?_; (with_reducible refine (precinctref02_read.calls k a0 0 0 t218 t219 t220 t221 t224 t225 _ A2.out).mono ?_); rintro e w6 ⟨v222, rfl, ho0, hb⟩; refine ⟨_, rfl, ?_⟩; have n0_ := Aside0.mk (Kd.R_lower (Kd.R_newB ho0 (g := gb217) (o := .cells #[.int .i64 0, .int .i64 0, .string (⟨#[]⟩ : ByteArray), .slice none 0 0] 58 (0, 0)) (rb BK217.out)) (below_size bb)); have n1_ := Aside0.mk (blk_below (g := gb217) (o := .cells #[.int .i64 0, .int .i64 0, .string (⟨#[]⟩ : ByteArray), .slice none 0 0] 58 (0, 0)) (rb BK217.out) hb); have n2_ := Aside0.mk (below_step bb hb); clear BK217; clear HB; have HO223 := n0_; have BK217 := n1_; have HB := n2_; clear n0_ n1_ n2_; (try clear hb); (try clear hb2); (try clear hk); (try clear hi); (try clear ho0)) | ((with_reducible refine gate_dst (N := 4) rfl ?_); refine box_event ?hg (N := 4) ?hd (cs := #[.int .i64 0, .int .i64 0, .string (⟨#[]⟩ : ByteArray), .slice none 0 0]) (t := 58) ?hr ?_; (case hd => rfl); (case hg => rfl); (case hr => first | (go_simp; done) | (go_simp; rfl)); intro gb226 hg w7 hbox hb; have n0_ := Aside0.mk (Kd.R_below (Kd.R_elderB (kR HO223.out) gb226 (Nat.le_of_eq hg.symm)) hb); have n1_ := Aside0.mk (blk_below (g := gb217) (o := .cells #[.int .i64 0, .int .i64 0, .string (⟨#[]⟩ : ByteArray), .slice none 0 0] 58 (0, 0)) (rb BK217.out) hb); have n2_ := Aside0.mk (below_step bb hb); have n3_ := Aside0.mk (hbox); have n4_ := Aside0.mk ((by rw [hg]; exact (below_size bb) : w.heap.size ≤ gb226)); have n5_ := Aside0.mk ((by rw [hg]; exact (below_size bb) : w.heap.size ≤ gb226)); have n6_ := Aside0.mk ((by rw [hg]; exact Nat.ne_of_lt (blk_lt (g := gb217) (o := .cells #[.int .i64 0, .int .i64 0, .string (⟨#[]⟩ : ByteArray), .slice none 0 0] 58 (0, 0)) (rb BK217.out)) : gb217 ≠ gb226)); have n7_ := Aside0.mk ((by rw [hg]; exact Nat.ne_of_gt (blk_lt (g := gb217) (o := .cells #[.int .i64 0, .int .i64 0, .string (⟨#[]⟩ : ByteArray), .slice none 0 0] 58 (0, 0)) (rb BK217.out)) : gb226 ≠ gb217)); clear HO223; clear BK217; clear HB; have HO223 := n0_; have BK217 := n1_; have HB := n2_; have BK226 := n3_; have GW226 := n4_; have GE226 := n5_; have NB217_226 := n6_; have NB226_217 := n7_; clear n0_ n1_ n2_ n3_ n4_ n5_ n6_ n7_; clear hb hbox hg; have hnb8 := NB226_217.out; have hnc8 := NB217_226.out; have hcz9_0 : w7.cell? ⟨gb226, 0, none⟩ = some (.int .i64 0) := (blk_cell BK226.out 0).trans rfl; have hcz9_1 : w7.cell? ⟨gb226, 1, none⟩ = some (.int .i64 0) := (blk_cell BK226.out 1).trans rfl; have hcz9_2 : w7.cell? ⟨gb226, 2, none⟩ = some (.string (⟨#[]⟩ : ByteArray)) := (blk_cell BK226.out 2).trans rfl; have hcz9_3 : w7.cell? ⟨gb226, 3, none⟩ = some (.slice none 0 0) := (blk_cell BK226.out 3).trans rfl; have hfz9_0 := blk_frozen BK226.out 0; have hfz9_1 := blk_frozen BK226.out 1; have hfz9_2 := blk_frozen BK226.out 2; have hfz9_3 := blk_frozen BK226.out 3; obtain ⟨Ao10, co10, eo10⟩ := Kd.R_slice HO223.out; subst eo10; have hcz11_0 : w7.cell? ⟨gb217, 0, none⟩ = some (.int .i64 0) := (blk_cell BK217.out 0).trans rfl; have hcz11_1 : w7.cell? ⟨gb217, 1, none⟩ = some (.int .i64 0) := (blk_cell BK217.out 1).trans rfl; have hcz11_2 : w7.cell? ⟨gb217, 2, none⟩ = some (.string (⟨#[]⟩ : ByteArray)) := (blk_cell BK217.out 2).trans rfl; have hcz11_3 : w7.cell? ⟨gb217, 3, none⟩ = some (.slice none 0 0) := (blk_cell BK217.out 3).trans rfl; have hfz11_0 := blk_frozen BK217.out 0; have hfz11_1 := blk_frozen BK217.out 1; have hfz11_2 := blk_frozen BK217.out 2; have hfz11_3 := blk_frozen BK217.out 3))
   refine bodyPost_ret (results_ct rfl _ _ gb217 58 #[.int .i64 0, .int .i64 0, .string (⟨#[]⟩ : ByteArray), .slice none 0 0] (0, 0) _ rfl (rb (blk_put (cs := #[.int .i64 0, .int .i64 0, .string (⟨#[]⟩ : ByteArray), .slice none 0 0]) (rb (blk_put (cs := #[.int .i64 0, .int .i64 0, .string (⟨#[]⟩ : ByteArray), .slice none 0 0]) (rb (blk_put (cs := #[.int .i64 0, .int .i64 0, .string (⟨#[]⟩ : ByteArray), .slice none 0 0]) (rb (blk_put (cs := #[.int .i64 0, .int .i64 0, .string (⟨#[]⟩ : ByteArray), .slice none 0 0]) (rb (blk_far (rb (blk_far (rb (blk_far (rb (blk_far (rb BK217.out) NB217_226.out _)) NB217_226.out _)) NB217_226.out _)) NB217_226.out _)) 0 _ rfl)) 1 _ rfl)) 2 _ rfl)) 3 _ rfl)) Tryd.underlying58 rfl (by kernel_rfl)) rfl ?_
   exact ⟨_, by first | rfl | (simp [errW_none, errW_some] <;> rfl) | (simp [*, errW_none, errW_some] <;> rfl), kn, bb⟩
  ·rw [if_neg c4] at H
   have c4b0 : decide (t224 < (a0.size : Int)) = false := decide_eq_false c4
   clear c4
   simp only [Option.some.injEq, Prod.mk.injEq] at H
   obtain ⟨rfl, rfl, rfl, rfl, rfl⟩ := H
   go_enter Tryd.func22, Tryd.ntmps22
   go_wp2_with (first | ((with_reducible refine gate_dst (N := 2) rfl ?_); refine box_event ?hg (N := 2) ?hd (cs := #[.int .i64 0, .int .i64 0, .string (⟨#[]⟩ : ByteArray), .slice none 0 0]) (t := 58) ?hr ?_; (case hd => rfl); (case hg => rfl); (case hr => first | (go_simp; done) | (go_simp; rfl)); intro gb217 hg w12 hbox hb; have n0_ := Aside0.mk (below_step bb hb); have n1_ := Aside0.mk (hbox); have n2_ := Aside0.mk ((by rw [hg]; exact (below_size bb) : w.heap.size ≤ gb217)); have n3_ := Aside0.mk ((by rw [hg]; exact (below_size bb) : w.heap.size ≤ gb217)); clear HB; have HB := n0_; have BK217 := n1_; have GW217 := n2_; have GE217 := n3_; clear n0_ n1_ n2_ n3_; clear hb hbox hg) | ((with_reducible refine gate_callee (f := 36) rfl ?_); refine goesL_ (some 9) rfl rfl Tryd.func36 (by kernel_rfl) rfl #[.string a0, .int .i64 0, .int .i64 0] rfl ag ?_; (with_reducible refine (precinctref02_read.calls k a0 0 0 t218 t219 t220 t221 t224 t225 _ A2.out).mono ?_); rintro e w13 ⟨v222, rfl, ho0, hb⟩; refine ⟨_, rfl, ?_⟩; have n0_ := Aside0.mk (Kd.R_lower (Kd.R_newB ho0 (g := gb217) (o := .cells #[.int .i64 0, .int .i64 0, .string (⟨#[]⟩ : ByteArray), .slice none 0 0] 58 (0, 0)) (rb BK217.out)) (below_size bb)); have n1_ := Aside0.mk (blk_below (g := gb217) (o := .cells #[.int .i64 0, .int .i64 0, .string (⟨#[]⟩ : ByteArray), .slice none 0 0] 58 (0, 0)) (rb BK217.out) hb); have n2_ := Aside0.mk (below_step bb hb); clear BK217; clear HB; have HO223 := n0_; have BK217 := n1_; have HB := n2_; clear n0_ n1_ n2_; (try clear hb); (try clear hb2); (try clear hk); (try clear hi); (try clear ho0)) | ((with_reducible refine gate_dst (N := 4) rfl ?_); refine box_event ?hg (N := 4) ?hd (cs := #[.int .i64 0, .int .i64 0, .string (⟨#[]⟩ : ByteArray), .slice none 0 0]) (t := 58) ?hr ?_; (case hd => rfl); (case hg => rfl); (case hr => first | (go_simp; done) | (go_simp; rfl)); intro gb226 hg w14 hbox hb; have n0_ := Aside0.mk (Kd.R_below (Kd.R_elderB (kR HO223.out) gb226 (Nat.le_of_eq hg.symm)) hb); have n1_ := Aside0.mk (blk_below (g := gb217) (o := .cells #[.int .i64 0, .int .i64 0, .string (⟨#[]⟩ : ByteArray), .slice none 0 0] 58 (0, 0)) (rb BK217.out) hb); have n2_ := Aside0.mk (below_step bb hb); have n3_ := Aside0.mk (hbox); have n4_ := Aside0.mk ((by rw [hg]; exact (below_size bb) : w.heap.size ≤ gb226)); have n5_ := Aside0.mk ((by rw [hg]; exact (below_size bb) : w.heap.size ≤ gb226)); have n6_ := Aside0.mk ((by rw [hg]; exact Nat.ne_of_lt (blk_lt (g := gb217) (o := .cells #[.int .i64 0, .int .i64 0, .string (⟨#[]⟩ : ByteArray), .slice none 0 0] 58 (0, 0)) (rb BK217.out)) : gb217 ≠ gb226)); have n7_ := Aside0.mk ((by rw [hg]; exact Nat.ne_of_gt (blk_lt (g := gb217) (o := .cells #[.int .i64 0, .int .i64 0, .string (⟨#[]⟩ : ByteArray), .slice none 0 0] 58 (0, 0)) (rb BK217.out)) : gb226 ≠ gb217)); clear HO223; clear BK217; clear HB; have HO223 := n0_; have BK217 := n1_; have HB := n2_; have BK226 := n3_; have GW226 := n4_; have GE226 := n5_; have NB217_226 := n6_; have NB226_217 := n7_; clear n0_ n1_ n2_ n3_ n4_ n5_ n6_ n7_; clear hb hbox hg; have hnb15 := NB226_217.out; have hnc15 := NB217_226.out; have hcz16_0 : w14.cell? ⟨gb226, 0, none⟩ = some (.int .i64 0) := (blk_cell BK226.out 0).trans rfl; have hcz16_1 : w14.cell? ⟨gb226, 1, none⟩ = some (.int .i64 0) := (blk_cell BK226.out 1).trans rfl; have hcz16_2 : w14.cell? ⟨gb226, 2, none⟩ = some (.string (⟨#[]⟩ : ByteArray)) := (blk_cell BK226.out 2).trans rfl; have hcz16_3 : w14.cell? ⟨gb226, 3, none⟩ = some (.slice none 0 0) := (blk_cell BK226.out 3).trans rfl; have hfz16_0 := blk_frozen BK226.out 0; have hfz16_1 := blk_frozen BK226.out 1; have hfz16_2 := blk_frozen BK226.out 2; have hfz16_3 := blk_frozen BK226.out 3; obtain ⟨Ao17, co17, eo17⟩ := Kd.R_slice HO223.out; subst eo17; have hcz18_0 : w14.cell? ⟨gb217, 0, none⟩ = some (.int .i64 0) := (blk_cell BK217.out 0).trans rfl; have hcz18_1 : w14.cell? ⟨gb217, 1, none⟩ = some (.int .i64 0) := (blk_cell BK217.out 1).trans rfl; have hcz18_2 : w14.cell? ⟨gb217, 2, none⟩ = some (.string (⟨#[]⟩ : ByteArray)) := (blk_cell BK217.out 2).trans rfl; have hcz18_3 : w14.cell? ⟨gb217, 3, none⟩ = some (.slice none 0 0) := (blk_cell BK217.out 3).trans rfl; have hfz18_0 := blk_frozen BK217.out 0; have hfz18_1 := blk_frozen BK217.out 1; have hfz18_2 := blk_frozen BK217.out 2; have hfz18_3 := blk_frozen BK217.out 3))
   refine bodyPost_ret (results_ct rfl _ _ gb217 58 #[.int .i64 t218, .int .i64 t219, .string t220, .slice Ao17 t221.length co17] (0, 0) _ rfl (rb (blk_put (cs := #[.int .i64 t218, .int .i64 t219, .string t220, .slice none 0 0]) (rb (blk_put (cs := #[.int .i64 t218, .int .i64 t219, .string (⟨#[]⟩ : ByteArray), .slice none 0 0]) (rb (blk_put (cs := #[.int .i64 t218, .int .i64 0, .string (⟨#[]⟩ : ByteArray), .slice none 0 0]) (rb (blk_put (cs := #[.int .i64 0, .int .i64 0, .string (⟨#[]⟩ : ByteArray), .slice none 0 0]) (rb (blk_far (rb (blk_far (rb (blk_far (rb (blk_far (rb BK217.out) NB217_226.out _)) NB217_226.out _)) NB217_226.out _)) NB217_226.out _)) 0 _ rfl)) 1 _ rfl)) 2 _ rfl)) 3 _ rfl)) Tryd.underlying58 rfl (by kernel_rfl)) rfl ?_
   exact ⟨_, by first | rfl | (simp [errW_none, errW_some] <;> rfl) | (simp [*, errW_none, errW_some] <;> rfl), kR (Kd.R_mono (Kd.R_far (p := ⟨gb217, 3, none⟩) (Kd.R_far (p := ⟨gb217, 2, none⟩) (Kd.R_far (p := ⟨gb217, 1, none⟩) (Kd.R_far (p := ⟨gb217, 0, none⟩) (Kd.R_far (p := ⟨gb226, 3, none⟩) (Kd.R_far (p := ⟨gb226, 2, none⟩) (Kd.R_far (p := ⟨gb226, 1, none⟩) (Kd.R_far (p := ⟨gb226, 0, none⟩) (Kd.R_mono (Kd.R_mono HO223.out (fun k_ hk => (⟨hk, hk.2⟩ : _ ∧ k_ ≠ gb226))) (fun k_ hk => (⟨hk, hk.1.1.2⟩ : _ ∧ k_ ≠ gb217))) (fun _ hk => hk.1.2) (.int .i64 t218)) (fun _ hk => hk.1.2) (.int .i64 t219)) (fun _ hk => hk.1.2) (.string t220)) (fun _ hk => hk.1.2) (.slice Ao17 t221.length co17)) (fun _ hk => hk.2) (.int .i64 t218)) (fun _ hk => hk.2) (.int .i64 t219)) (fun _ hk => hk.2) (.string t220)) (fun _ hk => hk.2) (.slice Ao17 t221.length co17)) (fun _ hk => trivial)), bb⟩
 ·rw [if_neg c3] at H
  have c3b0 : (t225 == 0) = false := beq_eq_false_iff_ne.mpr c3
  have c3b1 : (t225 != 0) = true := bne_iff_ne.mpr c3
  simp only [Option.some.injEq, Prod.mk.injEq] at H
  obtain ⟨rfl, rfl, rfl, rfl, rfl⟩ := H
  go_enter Tryd.func22, Tryd.ntmps22
  go_wp2_with (first | ((with_reducible refine gate_dst (N := 2) rfl ?_); refine box_event ?hg (N := 2) ?hd (cs := #[.int .i64 0, .int .i64 0, .string (⟨#[]⟩ : ByteArray), .slice none 0 0]) (t := 58) ?hr ?_; (case hd => rfl); (case hg => rfl); (case hr => first | (go_simp; done) | (go_simp; rfl)); intro gb217 hg w19 hbox hb; have n0_ := Aside0.mk (below_step bb hb); have n1_ := Aside0.mk (hbox); have n2_ := Aside0.mk ((by rw [hg]; exact (below_size bb) : w.heap.size ≤ gb217)); have n3_ := Aside0.mk ((by rw [hg]; exact (below_size bb) : w.heap.size ≤ gb217)); clear HB; have HB := n0_; have BK217 := n1_; have GW217 := n2_; have GE217 := n3_; clear n0_ n1_ n2_ n3_; clear hb hbox hg) | ((with_reducible refine gate_callee (f := 36) rfl ?_); refine goesL_ (some 9) rfl rfl Tryd.func36 (by kernel_rfl) rfl #[.string a0, .int .i64 0, .int .i64 0] rfl ag ?_; (with_reducible refine (precinctref02_read.calls k a0 0 0 t218 t219 t220 t221 t224 t225 _ A2.out).mono ?_); rintro e w20 ⟨v222, rfl, ho0, hb⟩; refine ⟨_, rfl, ?_⟩; have n0_ := Aside0.mk (Kd.R_lower (Kd.R_newB ho0 (g := gb217) (o := .cells #[.int .i64 0, .int .i64 0, .string (⟨#[]⟩ : ByteArray), .slice none 0 0] 58 (0, 0)) (rb BK217.out)) (below_size bb)); have n1_ := Aside0.mk (blk_below (g := gb217) (o := .cells #[.int .i64 0, .int .i64 0, .string (⟨#[]⟩ : ByteArray), .slice none 0 0] 58 (0, 0)) (rb BK217.out) hb); have n2_ := Aside0.mk (below_step bb hb); clear BK217; clear HB; have HO223 := n0_; have BK217 := n1_; have HB := n2_; clear n0_ n1_ n2_; (try clear hb); (try clear hb2); (try clear hk); (try clear hi); (try clear ho0)) | ((with_reducible refine gate_dst (N := 4) rfl ?_); refine box_event ?hg (N := 4) ?hd (cs := #[.int .i64 0, .int .i64 0, .string (⟨#[]⟩ : ByteArray), .slice none 0 0]) (t := 58) ?hr ?_; (case hd => rfl); (case hg => rfl); (case hr => first | (go_simp; done) | (go_simp; rfl)); intro gb226 hg w21 hbox hb; have n0_ := Aside0.mk (Kd.R_below (Kd.R_elderB (kR HO223.out) gb226 (Nat.le_of_eq hg.symm)) hb); have n1_ := Aside0.mk (blk_below (g := gb217) (o := .cells #[.int .i64 0, .int .i64 0, .string (⟨#[]⟩ : ByteArray), .slice none 0 0] 58 (0, 0)) (rb BK217.out) hb); have n2_ := Aside0.mk (below_step bb hb); have n3_ := Aside0.mk (hbox); have n4_ := Aside0.mk ((by rw [hg]; exact (below_size bb) : w.heap.size ≤ gb226)); have n5_ := Aside0.mk ((by rw [hg]; exact (below_size bb) : w.heap.size ≤ gb226)); have n6_ := Aside0.mk ((by rw [hg]; exact Nat.ne_of_lt (blk_lt (g := gb217) (o := .cells #[.int .i64 0, .int .i64 0, .string (⟨#[]⟩ : ByteArray), .slice none 0 0] 58 (0, 0)) (rb BK217.out)) : gb217 ≠ gb226)); have n7_ := Aside0.mk ((by rw [hg]; exact Nat.ne_of_gt (blk_lt (g := gb217) (o := .cells #[.int .i64 0, .int .i64 0, .string (⟨#[]⟩ : ByteArray), .slice none 0 0] 58 (0, 0)) (rb BK217.out)) : gb226 ≠ gb217)); clear HO223; clear BK217; clear HB; have HO223 := n0_; have BK217 := n1_; have HB := n2_; have BK226 := n3_; have GW226 := n4_; have GE226 := n5_; have NB217_226 := n6_; have NB226_217 := n7_; clear n0_ n1_ n2_ n3_ n4_ n5_ n6_ n7_; clear hb hbox hg; have hnb22 := NB226_217.out; have hnc22 := NB217_226.out; have hcz23_0 : w21.cell? ⟨gb226, 0, none⟩ = some (.int .i64 0) := (blk_cell BK226.out 0).trans rfl; have hcz23_1 : w21.cell? ⟨gb226, 1, none⟩ = some (.int .i64 0) := (blk_cell BK226.out 1).trans rfl; have hcz23_2 : w21.cell? ⟨gb226, 2, none⟩ = some (.string (⟨#[]⟩ : ByteArray)) := (blk_cell BK226.out 2).trans rfl; have hcz23_3 : w21.cell? ⟨gb226, 3, none⟩ = some (.slice none 0 0) := (blk_cell BK226.out 3).trans rfl; have hfz23_0 := blk_frozen BK226.out 0; have hfz23_1 := blk_frozen BK226.out 1; have hfz23_2 := blk_frozen BK226.out 2; have hfz23_3 := blk_frozen BK226.out 3; obtain ⟨Ao24, co24, eo24⟩ := Kd.R_slice HO223.out; subst eo24; have hcz25_0 : w21.cell? ⟨gb217, 0, none⟩ = some (.int .i64 0) := (blk_cell BK217.out 0).trans rfl; have hcz25_1 : w21.cell? ⟨gb217, 1, none⟩ = some (.int .i64 0) := (blk_cell BK217.out 1).trans rfl; have hcz25_2 : w21.cell? ⟨gb217, 2, none⟩ = some (.string (⟨#[]⟩ : ByteArray)) := (blk_cell BK217.out 2).trans rfl; have hcz25_3 : w21.cell? ⟨gb217, 3, none⟩ = some (.slice none 0 0) := (blk_cell BK217.out 3).trans rfl; have hfz25_0 := blk_frozen BK217.out 0; have hfz25_1 := blk_frozen BK217.out 1; have hfz25_2 := blk_frozen BK217.out 2; have hfz25_3 := blk_frozen BK217.out 3))
  refine bodyPost_ret (results_ct rfl _ _ gb217 58 #[.int .i64 0, .int .i64 0, .string (⟨#[]⟩ : ByteArray), .slice none 0 0] (0, 0) _ rfl (rb (blk_put (cs := #[.int .i64 0, .int .i64 0, .string (⟨#[]⟩ : ByteArray), .slice none 0 0]) (rb (blk_put (cs := #[.int .i64 0, .int .i64 0, .string (⟨#[]⟩ : ByteArray), .slice none 0 0]) (rb (blk_put (cs := #[.int .i64 0, .int .i64 0, .string (⟨#[]⟩ : ByteArray), .slice none 0 0]) (rb (blk_put (cs := #[.int .i64 0, .int .i64 0, .string (⟨#[]⟩ : ByteArray), .slice none 0 0]) (rb (blk_far (rb (blk_far (rb (blk_far (rb (blk_far (rb BK217.out) NB217_226.out _)) NB217_226.out _)) NB217_226.out _)) NB217_226.out _)) 0 _ rfl)) 1 _ rfl)) 2 _ rfl)) 3 _ rfl)) Tryd.underlying58 rfl (by kernel_rfl)) rfl ?_
  exact ⟨_, by first | rfl | (simp [errW_none, errW_some] <;> rfl) | (simp [*, errW_none, errW_some] <;> rfl), kn, bb⟩

end Go.Proofs.YtpbnfnaebdmagaaDoor.PT
namespace Go.Proofs.YtpbnfnaebdmagaaDoor.Rr
set_option linter.unusedVariables false
set_option linter.unusedSimpArgs false
open Go Go.RowKit Go.Proofs.YtpbnfnaebdmagaaDoor.Plain Go.Proofs.YtpbnfnaebdmagaaDoor.Words Go.Proofs.YtpbnfnaebdmagaaDoor.Vr Go.Proofs.YtpbnfnaebdmagaaDoor.Vs Go.Proofs.YtpbnfnaebdmagaaDoor.PT Go.Proofs.YtpbnfnaebdmagaaDoorW.PrintWords Go.Proofs.YtpbnfnaebdmagaaDoorW.PrintLast Go.Proofs.YtpbnfnaebdmagaaDoorW.PrintMore
theorem rread_le {s : ByteArray} {i d : Int} {K K' : Nat} (h : K ≤ K') {r} (e : precinctref02_read.f K s i d = some r) : precinctref02_read.f K' s i d = some r := up_le (fun k => precinctref02_read.mono s i d k) h e
theorem rloop_le {x0 : ByteArray} {x2 x23 x24 x27 x30 x31 : Int} {x32 : ByteArray} {x40 x41 : Int} {x42 : ByteArray} {x43 : List W} {K K' : Nat} (h : K ≤ K') {r} (e : precinctref02_read.l0 K x0 x2 x23 x24 x27 x30 x31 x32 x40 x41 x42 x43 = some r) : precinctref02_read.l0 K' x0 x2 x23 x24 x27 x30 x31 x32 x40 x41 x42 x43 = some r :=
  up_le (f := fun K => precinctref02_read.l0 K x0 x2 x23 x24 x27 x30 x31 x32 x40 x41 x42 x43) (fun k => (precinctref02_read.mono_l k).2 _ _ _ _ _ _ _ _ _ _ _ _) h e
/-- what the document's reader answers for the plain reader's answer -/
abbrev ans (r : Int × W × Int) : Int × Int × ByteArray × List W × Int × Int := (r.2.1.f0, r.2.1.f1, r.2.1.f2, r.2.1.f3, r.2.2, r.1)
theorem rloop_good {s : ByteArray} {d N a b a' b' : Int} {c c' : ByteArray} {f : Int → Option (Int × W × Int)} (hp : ∀ (i : Int) r, 0 ≤ i → i ≤ s.size → f i = some r → r.1 = 0 → 0 ≤ r.2.2 ∧ r.2.2 ≤ s.size) (hf : ∀ (i : Int) r, 0 ≤ i → i ≤ (s.size : Int) → f i = some r → ∃ K, precinctref02_read.f K s i (wrap64 (d + 1)) = some (ans r)) (hN : N ≤ 256) :
    ∀ (n : Nat) (i : Int) (acc : List W) r, 0 ≤ i → i ≤ (s.size : Int) → (acc.length : Int) + n = N → listR f n i = some r →
      ∃ K, precinctref02_read.l0 K s d N i acc.length a b c a' b' c' acc = some (if r.1 = 0 then (a', b', c', acc ++ r.2.1, r.2.2, 0) else (a, b, c, [], 0, r.1))
  | 0, i, acc, r, h0, h1, hl, h => by
    simp only [listR, Option.some.injEq] at h
    subst h
    refine ⟨1, ?_⟩
    simp only [precinctref02_read.l0]
    rw [if_neg (by omega)]
    simp
  | n + 1, i, acc, r, h0, h1, hl, h => by
    simp only [listR] at h
    obtain ⟨⟨e, x, q⟩, hx, h⟩ := Option.bind_eq_some_iff.mp h
    obtain ⟨K, hK⟩ := hf i _ h0 h1 hx
    dsimp only at h
    by_cases g : e = 0
    · rw [if_pos g] at h
      obtain ⟨⟨e2, l, q2⟩, hl2, h⟩ := Option.bind_eq_some_iff.mp h
      simp only [Option.some.injEq] at h
      subst h
      have b0 := hp i _ h0 h1 hx g
      obtain ⟨K2, hK2⟩ := rloop_good (a := a) (b := b) (c := c) (a' := a') (b' := b') (c' := c') hp hf hN n q (acc ++ [x]) _ b0.1 b0.2 (by simp; omega) hl2
      refine ⟨max K K2 + 1, ?_⟩
      simp only [precinctref02_read.l0]
      have e1 : IntKind.u64.wrap ((acc.length : Int) + 1) = ((acc ++ [x]).length : Int) := by
        rw [wu64]; simp; omega
      rw [if_pos (by omega), rread_le (Nat.le_max_left K K2) hK, Option.bind_some, if_pos g, if_pos (by omega), e1]
      have := rloop_le (Nat.le_max_right K K2) hK2
      rw [List.append_assoc] at this
      cases x
      exact this
    · rw [if_neg g] at h
      simp only [Option.some.injEq] at h
      subst h
      refine ⟨K + 1, ?_⟩
      simp only [precinctref02_read.l0]
      rw [if_pos (by omega), hK, Option.bind_some, if_neg g, if_neg g]
theorem rread_good {s : ByteArray} (hs : s.size ≤ 140737488351232 * 4) : ∀ (k : Nat) (i d : Int) (r : Int × W × Int), 0 ≤ i → i ≤ (s.size : Int) → 0 ≤ d → d ≤ 8 → valR mkW noW k s i d = some r → ∃ K, precinctref02_read.f K s i d = some (ans r)
  | 0, _, _, _, _, _, _, _, h => by simp [valR] at h
  | k + 1, i, d, r, h0, h1, d0, d1, h => by
    have hi : -9223372036854775808 ≤ i ∧ i ≤ 9223372036854775807 := by omega
    simp only [valR] at h
    by_cases c1 : (getR s i 1).2.2 = 0
    · rw [if_pos c1] at h
      have b1 := gbounds s i 1 c1
      have hi1 : -9223372036854775808 ≤ (getR s i 1).2.1 ∧ (getR s i 1).2.1 ≤ 9223372036854775807 := by omega
      by_cases k1 : (getR s i 1).1 = 1
      · rw [if_pos k1] at h
        refine ⟨21, ?_⟩
        simp only [precinctref02_read.f]
        rw [rget_some 20 hi hs (by omega), Option.bind_some, if_pos c1, if_pos k1, rget_some 20 hi1 hs (by omega), Option.bind_some]
        unfold intR at h
        by_cases d1 : (getR s (getR s i 1).2.1 1).2.2 = 0
        · have b2 := gbounds s _ 1 d1
          rw [if_pos d1] at h ⊢
          by_cases d2 : (getR s (getR s i 1).2.1 1).1 > 8
          · rw [if_pos d2] at h ⊢
            simp at h; subst h; rfl
          rw [if_neg d2] at h ⊢
          by_cases d3 : (getR s (getR s i 1).2.1 1).1 = 0
          · rw [if_pos d3] at h ⊢
            simp at h; subst h; rfl
          rw [if_neg d3] at h ⊢
          have e1 : wrap64 (getR s (getR s i 1).2.1 1).1 = (getR s (getR s i 1).2.1 1).1 := by unfold wrap64; omega
          rw [e1, rget_some 20 (by omega) hs (by omega), Option.bind_some]
          by_cases d4 : (getR s (getR s (getR s i 1).2.1 1).2.1 (getR s (getR s i 1).2.1 1).1).2.2 = 0
          · rw [if_pos d4] at h ⊢
            have b3 := gbounds s _ _ d4
            rw [top_zero d4] at h
            rw [if_pos (by omega), if_pos (by omega)]
            by_cases d5 : bt s (getR s (getR s i 1).2.1 1).2.1 = 0
            · rw [if_pos d5] at h ⊢
              simp at h; subst h; rfl
            rw [if_neg d5] at h ⊢
            simp only [if_true, Option.some.injEq] at h
            subst h
            rw [runfold_some b3.1 b3.2.1, Option.bind_some]
          · rw [if_neg d4] at h ⊢
            simp only at h
            rw [if_neg d4] at h
            simp only [Option.some.injEq] at h
            subst h; rfl
        · rw [if_neg d1] at h ⊢
          simp only at h
          rw [if_neg d1] at h
          simp only [Option.some.injEq] at h
          subst h; rfl
      rw [if_neg k1] at h
      by_cases k2 : (getR s i 1).1 = 2
      · rw [if_pos k2] at h
        refine ⟨21, ?_⟩
        simp only [precinctref02_read.f]
        rw [rget_some 20 hi hs (by omega), Option.bind_some, if_pos c1, if_neg k1, if_pos k2, rgtext_some 20 hi1 hs (by omega), Option.bind_some]
        by_cases c2 : (gtextR s (getR s i 1).2.1).2.2 = 0
        · rw [if_pos c2] at h ⊢
          by_cases c3 : ((gtextR s (getR s i 1).2.1).1.size : Int) > 4096
          · rw [if_pos c3] at h ⊢
            simp only [Option.some.injEq] at h; subst h; rfl
          · rw [if_neg c3] at h ⊢
            simp only [Option.some.injEq] at h; subst h; rfl
        · rw [if_neg c2] at h ⊢
          simp only [Option.some.injEq] at h; subst h; rfl
      rw [if_neg k2] at h
      by_cases k3 : (getR s i 1).1 = 3
      · rw [if_pos k3] at h
        by_cases c2 : d ≥ 8
        · rw [if_pos c2] at h
          refine ⟨21, ?_⟩
          simp only [precinctref02_read.f]
          rw [rget_some 20 hi hs (by omega), Option.bind_some, if_pos c1, if_neg k1, if_neg k2, if_pos k3, if_pos c2]
          simp only [Option.some.injEq] at h; subst h; rfl
        rw [if_neg c2] at h
        by_cases c3 : (getR s (getR s i 1).2.1 2).2.2 = 0
        · rw [if_pos c3] at h
          have b2 := gbounds s _ 2 c3
          by_cases c4 : (getR s (getR s i 1).2.1 2).1 > 256
          · rw [if_pos c4] at h
            refine ⟨21, ?_⟩
            simp only [precinctref02_read.f]
            rw [rget_some 20 hi hs (by omega), Option.bind_some, if_pos c1, if_neg k1, if_neg k2, if_pos k3, if_neg c2, rget_some 20 hi1 hs (by omega), Option.bind_some, if_pos c3, if_pos c4]
            simp only [Option.some.injEq] at h; subst h; rfl
          rw [if_neg c4] at h
          obtain ⟨⟨e, l, q⟩, hl, h⟩ := Option.bind_eq_some_iff.mp h
          have e1 : wrap64 (d + 1) = d + 1 := by unfold wrap64; omega
          obtain ⟨K, hK⟩ := rloop_good (s := s) (d := d) (N := (getR s (getR s i 1).2.1 2).1) (a := 0) (b := 0) (c := ⟨#[]⟩) (a' := 2) (b' := 0) (c' := ⟨#[]⟩) (f := fun q => valR mkW noW k s q (d + 1)) (fun i r q0 q1 hq => (valR_place s k i (d + 1) r q0 q1 hq).1) (fun i r g0 g1 g => by rw [e1]; exact rread_good hs k i (d + 1) r g0 g1 (by omega) (by omega) g) (by omega) _ _ [] _ (by omega) (by omega) (by simp; omega) hl
          refine ⟨max 20 K + 1, ?_⟩
          simp only [precinctref02_read.f]
          rw [rget_some _ hi hs (by omega), Option.bind_some, if_pos c1, if_neg k1, if_neg k2, if_pos k3, if_neg c2, rget_some _ hi1 hs (by omega), Option.bind_some, if_pos c3, if_neg c4]
          have := rloop_le (Nat.le_max_right 20 K) hK
          refine this.trans ?_
          dsimp only at h ⊢
          by_cases c5 : e = 0
          · rw [if_pos c5] at h ⊢
            simp only [Option.some.injEq] at h; subst h; rfl
          · rw [if_neg c5] at h ⊢
            simp only [Option.some.injEq] at h; subst h; rfl
        · rw [if_neg c3] at h
          refine ⟨21, ?_⟩
          simp only [precinctref02_read.f]
          rw [rget_some 20 hi hs (by omega), Option.bind_some, if_pos c1, if_neg k1, if_neg k2, if_pos k3, if_neg c2, rget_some 20 hi1 hs (by omega), Option.bind_some, if_neg c3]
          simp only [Option.some.injEq] at h; subst h; rfl
      rw [if_neg k3] at h
      refine ⟨21, ?_⟩
      simp only [precinctref02_read.f]
      rw [rget_some 20 hi hs (by omega), Option.bind_some, if_pos c1, if_neg k1, if_neg k2, if_neg k3]
      simp only [Option.some.injEq] at h; subst h; rfl
    · rw [if_neg c1] at h
      refine ⟨21, ?_⟩
      simp only [precinctref02_read.f]
      rw [rget_some 20 hi hs (by omega), Option.bind_some, if_neg c1]
      simp only [Option.some.injEq] at h; subst h; rfl
end Go.Proofs.YtpbnfnaebdmagaaDoor.Rr
