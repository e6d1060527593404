-- printed by a program of this session out of the translation; see NOTES.md
import Derived.Test.YtjicfkmpgogppaaPOx0
import Derived.Test.YtjicfkmpgogppaaPOx1
import Derived.Test.YtjicfkmpgogppaaPOx2
import Derived.Test.YtjicfkmpgogppaaPOx4
import Derived.Test.YtjicfkmpgogppaaPOx8
import Derived.Test.YtjicfkmpgogppaaPOx13
import Derived.Test.YtjicfkmpgogppaaPOx14
import Derived.Test.YtjicfkmpgogppaaPOx22
import Derived.Test.YtjicfkmpgogppaaPOx28
import Derived.Test.YtjicfkmpgogppaaRb
namespace Go.Proofs.Ytjicfkmpgogppaa.PO
open Go.RowKit Go.Proofs.YtjicfkmpgogppaaW.PrintWords Go.Proofs.YtjicfkmpgogppaaW.PrintLast Go.Proofs.YtjicfkmpgogppaaW.PrintMore Go.Proofs.YtjicfkmpgogppaaRb
attribute [local go_sem] max2_int min2_int max_two min_two max_three min_three max_four min_four   -- for this text's walks alone
set_option linter.unusedVariables false
set_option linter.unusedSimpArgs false

/-! ### precinctlaw18_OpBack: function 11 -/
mutual
def precinctlaw18_OpBack.l0 : Nat → ByteArray → ByteArray → Int → Int → Int → ByteArray → List (S54) → Option (Bool)
 | 0, _, _, _, _, _, _, _ => none
 | k + 1, x0, x1, x30, x482000, x482001, x482002, x482003 => if x30 < 10 then ((op_Put.f k x1 x30 x482003).bind fun bt484 => (if bt484.2 = 0 then ((op_Get.f k bt484.1).bind fun bt486 => (if bt486.2.2.2 = 0 then (if bt486.1.toList = x1.toList then (if bt486.2.1 = x30 then ((pack_All.f bt486.2.2.1).bind fun bt493 => ((pack_All.f x482003).bind fun bt499 => ((pack_Equal.f bt493.1 bt493.2.1 bt493.2.2.1 bt493.2.2.2 bt499.1 bt499.2.1 bt499.2.2.1 bt499.2.2.2).bind fun t505 => (if t505 = true then (precinctlaw18_OpBack.l0 k x0 x1 (wrap64 (x30 + 1)) x482000 x482001 x482002 x482003) else (some false))))) else (some false)) else (some false)) else (some false))) else (precinctlaw18_OpBack.l0 k x0 x1 (wrap64 (x30 + 1)) x482000 x482001 x482002 x482003))) else ((op_Answer_Bytes.f k 24 x482000 x482001 x482002 x482003).bind fun t507 => (if t507.toList = ([] : List UInt8) then (precinctlaw18_OpBack.j1 k x0) else ((op_Told.f t507).bind fun bt508 => (if bt508.2.2.2.2.2 = 0 then (if bt508.1 = 24 then ((pack_Equal.f bt508.2.1 bt508.2.2.1 bt508.2.2.2.1 bt508.2.2.2.2.1 x482000 x482001 x482002 x482003).bind fun t517 => (if t517 = true then (precinctlaw18_OpBack.j1 k x0) else (some false))) else (some false)) else (some false)))))
def precinctlaw18_OpBack.j1 : Nat → ByteArray → Option (Bool)
 | 0, _ => none
 | k + 1, x0 => (op_Get.f k x0).bind fun bt518 => (if bt518.2.2.2 = 0 then ((op_Put.f k bt518.1 bt518.2.1 bt518.2.2.1).bind fun bt525 => (if bt525.2 = 0 then (precinctlaw18_OpBack.j2 k x0 (bt525.1.toList != x0.toList)) else (precinctlaw18_OpBack.j2 k x0 true))) else ((op_Told.f x0).bind fun bt537 => (if bt537.2.2.2.2.2 = 0 then ((op_Answer_Bytes.f k bt537.1 bt537.2.1 bt537.2.2.1 bt537.2.2.2.1 bt537.2.2.2.2.1).bind fun t546 => (some (t546.toList == x0.toList))) else (some true))))
def precinctlaw18_OpBack.j2 : Nat → ByteArray → Bool → Option (Bool)
 | 0, _, _ => none
 | k + 1, x0, x120 => if x120 = true then (some false) else ((op_Told.f x0).bind fun bt527 => (if bt527.2.2.2.2.2 = 0 then ((op_Answer_Bytes.f k bt527.1 bt527.2.1 bt527.2.2.1 bt527.2.2.2.1 bt527.2.2.2.2.1).bind fun t536 => (some (t536.toList == x0.toList))) else (some true)))
end
def precinctlaw18_OpBack.f (k : Nat) (a0 : ByteArray) (a1 : ByteArray) (l2 : List (S147)) : Option (Bool) := (precinctlaw18_build.f l2).bind fun bt469 => ((precinctlaw18_wakes.f k).bind fun t483 => (if t483 = true then (precinctlaw18_OpBack.l0 k a0 a1 0 bt469.1 bt469.2.1 bt469.2.2.1 bt469.2.2.2.1) else (some false)))
theorem precinctlaw18_OpBack.mono_l : ∀ k, (∀ y0 y1 y2 y3 y4 y5 y6, LeO (precinctlaw18_OpBack.l0 k y0 y1 y2 y3 y4 y5 y6) (precinctlaw18_OpBack.l0 (k + 1) y0 y1 y2 y3 y4 y5 y6)) ∧ (∀ y0, LeO (precinctlaw18_OpBack.j1 k y0) (precinctlaw18_OpBack.j1 (k + 1) y0)) ∧ (∀ y0 y1, LeO (precinctlaw18_OpBack.j2 k y0 y1) (precinctlaw18_OpBack.j2 (k + 1) y0 y1))
 | 0 => ⟨fun _ _ _ _ _ _ _ r h => by simp [precinctlaw18_OpBack.l0] at h, fun _ r h => by simp [precinctlaw18_OpBack.j1] at h, fun _ _ r h => by simp [precinctlaw18_OpBack.j2] at h⟩
 | k + 1 => by
  obtain ⟨ih0, ih1, ih2⟩ := precinctlaw18_OpBack.mono_l k
  refine ⟨?_, ?_, ?_⟩
  ·intro y0 y1 y2 y3 y4 y5 y6
   unfold precinctlaw18_OpBack.l0
   repeat' first
   | (with_reducible exact ih0 _ _ _ _ _ _ _)
   | (with_reducible exact ih1 _)
   | (with_reducible exact ih2 _ _)
   | (with_reducible exact op_Answer_Bytes.mono _ _ _ _ _ _)
   | (with_reducible exact op_Get.mono _ _)
   | (with_reducible exact op_Put.mono _ _ _ _)
   | (with_reducible exact precinctlaw18_wakes.mono _)
   | (with_reducible exact LeO.refl _)
   | (with_reducible exact LeO.none _)
   | (with_reducible refine LeO.ite ?_ ?_)
   | (with_reducible refine LeO.bind ?_ (fun _ => ?_))
   | exact ih0 _ _ _ _ _ _ _
   | exact ih1 _
   | exact ih2 _ _
   | exact op_Answer_Bytes.mono _ _ _ _ _ _
   | exact op_Get.mono _ _
   | exact op_Put.mono _ _ _ _
   | exact precinctlaw18_wakes.mono _
   | exact LeO.none _
   | refine LeO.ite ?_ ?_
   | refine LeO.bind ?_ (fun _ => ?_)
  ·intro y0
   unfold precinctlaw18_OpBack.j1
   repeat' first
   | (with_reducible exact ih0 _ _ _ _ _ _ _)
   | (with_reducible exact ih1 _)
   | (with_reducible exact ih2 _ _)
   | (with_reducible exact op_Answer_Bytes.mono _ _ _ _ _ _)
   | (with_reducible exact op_Get.mono _ _)
   | (with_reducible exact op_Put.mono _ _ _ _)
   | (with_reducible exact precinctlaw18_wakes.mono _)
   | (with_reducible exact LeO.refl _)
   | (with_reducible exact LeO.none _)
   | (with_reducible refine LeO.ite ?_ ?_)
   | (with_reducible refine LeO.bind ?_ (fun _ => ?_))
   | exact ih0 _ _ _ _ _ _ _
   | exact ih1 _
   | exact ih2 _ _
   | exact op_Answer_Bytes.mono _ _ _ _ _ _
   | exact op_Get.mono _ _
   | exact op_Put.mono _ _ _ _
   | exact precinctlaw18_wakes.mono _
   | exact LeO.none _
   | refine LeO.ite ?_ ?_
   | refine LeO.bind ?_ (fun _ => ?_)
  ·intro y0 y1
   unfold precinctlaw18_OpBack.j2
   repeat' first
   | (with_reducible exact ih0 _ _ _ _ _ _ _)
   | (with_reducible exact ih1 _)
   | (with_reducible exact ih2 _ _)
   | (with_reducible exact op_Answer_Bytes.mono _ _ _ _ _ _)
   | (with_reducible exact op_Get.mono _ _)
   | (with_reducible exact op_Put.mono _ _ _ _)
   | (with_reducible exact precinctlaw18_wakes.mono _)
   | (with_reducible exact LeO.refl _)
   | (with_reducible exact LeO.none _)
   | (with_reducible refine LeO.ite ?_ ?_)
   | (with_reducible refine LeO.bind ?_ (fun _ => ?_))
   | exact ih0 _ _ _ _ _ _ _
   | exact ih1 _
   | exact ih2 _ _
   | exact op_Answer_Bytes.mono _ _ _ _ _ _
   | exact op_Get.mono _ _
   | exact op_Put.mono _ _ _ _
   | exact precinctlaw18_wakes.mono _
   | exact LeO.none _
   | refine LeO.ite ?_ ?_
   | refine LeO.bind ?_ (fun _ => ?_)
theorem precinctlaw18_OpBack.mono : ∀ a0 a1 a2 k, LeO (precinctlaw18_OpBack.f k a0 a1 a2) (precinctlaw18_OpBack.f (k + 1) a0 a1 a2) := by
 intro a0 a1 a2 k
 obtain ⟨ih0, ih1, ih2⟩ := precinctlaw18_OpBack.mono_l k
 unfold precinctlaw18_OpBack.f
 repeat' first
   | (with_reducible exact ih0 _ _ _ _ _ _ _)
   | (with_reducible exact ih1 _)
   | (with_reducible exact ih2 _ _)
   | (with_reducible exact op_Answer_Bytes.mono _ _ _ _ _ _)
   | (with_reducible exact op_Get.mono _ _)
   | (with_reducible exact op_Put.mono _ _ _ _)
   | (with_reducible exact precinctlaw18_wakes.mono _)
   | (with_reducible exact LeO.refl _)
   | (with_reducible exact LeO.none _)
   | (with_reducible refine LeO.ite ?_ ?_)
   | (with_reducible refine LeO.bind ?_ (fun _ => ?_))
   | exact ih0 _ _ _ _ _ _ _
   | exact ih1 _
   | exact ih2 _ _
   | exact op_Answer_Bytes.mono _ _ _ _ _ _
   | exact op_Get.mono _ _
   | exact op_Put.mono _ _ _ _
   | exact precinctlaw18_wakes.mono _
   | exact LeO.none _
   | refine LeO.ite ?_ ?_
   | refine LeO.bind ?_ (fun _ => ?_)
def precinctlaw18_OpBack.T10 : Bool × List (List Nat × List Nat) := (true, [([], []), ([0], [0]), ([1], [1]), ([2], [2]), ([3, 2], [2, 3]), ([2], [2]), ([4, 5, 2], [2, 4, 5]), ([2, 6], [2, 6]), ([7, 2], [7]), ([8], [8]), ([9, 8], [8, 9]), ([8], [8]), ([10, 11, 8], [8, 10, 11]), ([8, 12], [8, 12]), ([13, 8], [13]), ([14], [14]), ([15, 14], [14, 15]), ([16, 14, 14], [14, 16]), ([14], [14]), ([18, 14], [14, 18]), ([19, 17, 14], [14, 19]), ([17, 20, 20, 14], [14, 17, 20]), ([21, 14], [14, 21]), ([14, 22], [14, 22])])
def precinctlaw18_OpBack.B10 : List Nat := [0, 1, 3, 7, 15, 7, 63, 127, 255, 511, 1023, 511, 4095, 8191, 16383, 32767, 65535, 131071, 32767, 294911, 1048575, 2097151, 4194303, 8388607]
theorem precinctlaw18_OpBack.tab10 : rtab .any (opsOf Try.f11 10) = precinctlaw18_OpBack.T10 := by kernel_rfl
theorem precinctlaw18_OpBack.bits10 : waitsOk precinctlaw18_OpBack.T10.2 precinctlaw18_OpBack.B10 = true := by kernel_rfl
set_option maxHeartbeats 8000000 in
set_option maxRecDepth 100000 in
theorem precinctlaw18_OpBack.calls (k : Nat) (a0 : ByteArray) (a1 : ByteArray) (A2 : Option Addr) (c2 : Nat) (l2 : List (S147)) (r : Bool) (w : World) (hr2 : Kd.C k147 w A2 l2.length l2) (hc2 : l2.length ≤ c2) (hT_ : Aside0 (r = true)) (h : precinctlaw18_OpBack.f k a0 a1 l2 = some r) :
  Calls Try.prog 11 #[.string a0, .string a1, .slice A2 l2.length c2] w fun e w' => e = .returned (.bool r) ∧ Below w.heap.size w w' := by
 have hu54 := Try.underlying54
 have hu57 := Try.underlying57
 have hu75 := Try.underlying75
 have hu82 := Try.underlying82
 have HR2 := Aside0.mk hr2
 have HC2 := Aside0.mk hc2
 clear hr2 hc2
 have HB := Aside0.mk (Below.refl w.heap.size w)
 have H : ((precinctlaw18_build.f l2).bind fun bt469 => ((precinctlaw18_wakes.f k).bind fun t483 => (if t483 = true then (precinctlaw18_OpBack.l0 k a0 a1 0 bt469.1 bt469.2.1 bt469.2.2.1 bt469.2.2.2.1) else (some false)))) = some r := h
 clear h
 replace H := Option.bind_eq_some_iff.mp H
 obtain ⟨⟨t469, t470, t471, t472, t475, t476, t477, t478⟩, A40, H⟩ := H
 replace H : ((precinctlaw18_wakes.f k).bind fun t483 => (if t483 = true then (precinctlaw18_OpBack.l0 k a0 a1 0 t469 t470 t471 t472) else (some false))) = some r := H
 have A4 := Aside0.mk A40
 clear A40
 replace H := Option.bind_eq_some_iff.mp H
 obtain ⟨t483, A50, H⟩ := H
 replace H : (if t483 = true then (precinctlaw18_OpBack.l0 k a0 a1 0 t469 t470 t471 t472) else (some false)) = some r := H
 have A5 := Aside0.mk A50
 clear A50
 by_cases c6 : t483 = true
 ·subst c6
  have H1 : (precinctlaw18_OpBack.l0 k a0 a1 0 t469 t470 t471 t472) = some r := by rw [if_pos rfl] at H; exact H
  clear H
  have H := H1
  clear H1
  have H' := Aside0.mk H
  clear H
  go_enter Try.func11, Try.ntmps11
  go_wp2_with (first | ((with_reducible refine gate_callee (f := 28) rfl ?_); refine goesL_ (some 25) rfl rfl Try.func28 (by kernel_rfl) rfl #[.slice A2 l2.length c2] rfl (by (try simp only [List.map_toArray, List.map_cons, List.map_nil]); first | done | rfl | (simp only [List.length_drop, List.length_take]; rfl)) ?_; (with_reducible refine (precinctlaw18_build.calls _ _ l2 t469 t470 t471 t472 t475 t476 t477 t478 _ ?side1 ?side2 A4.out).mono ?_); (case side1 => repeat (first | exact HR2.out | (with_reducible refine Kd.C_alloc ?_ _) | (with_reducible refine Kd.C_drewN ?_ _) | (with_reducible refine Kd.C_drew ?_))); (case side2 => exact HC2.out); rintro e w7 ⟨v473, v479, rfl, ho0, ho1, hb⟩; refine ⟨_, rfl, ?_⟩; have n0_ := Aside0.mk (Kd.N_lower (Kd.N_mono (ok' := fun k_ => some k_ ≠ (v479 : Value).ownBlock) (Kd.R_N (Kd.R_bound (Kd.R_apart' ho0 (Kd.R_typed ho1) (by decide)))) (fun k_ hk_ => hk_.1.2)) (below_size bb)); have n1_ := Aside0.mk (Kd.N_lower (Kd.N_mono (ok' := fun k_ => some k_ ≠ (v473 : Value).ownBlock) (Kd.R_N (Kd.R_bound (Kd.R_apart' ho1 (Kd.R_typed ho0) (by decide)))) (fun k_ hk_ => hk_.1.2)) (below_size bb)); have n2_ := Aside0.mk (below_step bb hb); clear HB; have HO474 := n0_; have HO480 := n1_; have HB := n2_; clear n0_ n1_ n2_; (try clear hb); (try clear hb2); (try clear hk); (try clear hi); (try clear ho0); (try clear ho1)) | ((with_reducible refine gate_dst (N := 7) rfl ?_); refine box_event ?hg (N := 7) ?hd (cs := #[.int .i64 0, .int .i64 0, .string (⟨#[]⟩ : ByteArray), .slice none 0 0]) (t := 54) ?hr ?_; (case hd => rfl); (case hg => rfl); (case hr => first | (go_simp; done) | (go_simp; rfl)); intro gb481 hg w8 hbox hb; have n0_ := Aside0.mk (Kd.N_below (Kd.N_elderB (kN HO474.out) gb481 (Nat.le_of_eq hg.symm)) hb); have n1_ := Aside0.mk (Kd.N_below (Kd.N_elderB (kN HO480.out) gb481 (Nat.le_of_eq hg.symm)) hb); have n2_ := Aside0.mk (below_step bb hb); have n3_ := Aside0.mk (hbox); have n4_ := Aside0.mk ((by rw [hg]; exact (below_size bb) : w.heap.size ≤ gb481)); have n5_ := Aside0.mk ((by rw [hg]; exact (below_size bb) : w.heap.size ≤ gb481)); clear HO474; clear HO480; clear HB; have HO474 := n0_; have HO480 := n1_; have HB := n2_; have BK481 := n3_; have GW481 := n4_; have GE481 := n5_; clear n0_ n1_ n2_ n3_ n4_ n5_; clear hb hbox hg) | ((with_reducible refine gate_dst (N := 8) rfl ?_); refine box_event ?hg (N := 8) ?hd (cs := #[.int .i64 0, .int .i64 0, .string (⟨#[]⟩ : ByteArray), .slice none 0 0]) (t := 57) ?hr ?_; (case hd => rfl); (case hg => rfl); (case hr => first | (go_simp; done) | (go_simp; rfl)); intro gb482 hg w9 hbox hb; have n0_ := Aside0.mk (Kd.N_below (Kd.N_elderB (kN HO474.out) gb482 (Nat.le_of_eq hg.symm)) hb); have n1_ := Aside0.mk (Kd.N_below (Kd.N_elderB (kN HO480.out) gb482 (Nat.le_of_eq hg.symm)) hb); have n2_ := Aside0.mk (blk_below (g := gb481) (o := .cells #[.int .i64 0, .int .i64 0, .string (⟨#[]⟩ : ByteArray), .slice none 0 0] 54 (0, 0)) (rb BK481.out) hb); have n3_ := Aside0.mk (below_step bb hb); have n4_ := Aside0.mk (hbox); have n5_ := Aside0.mk ((by rw [hg]; exact (below_size bb) : w.heap.size ≤ gb482)); have n6_ := Aside0.mk ((by rw [hg]; exact (below_size bb) : w.heap.size ≤ gb482)); have n7_ := Aside0.mk ((by rw [hg]; exact Nat.ne_of_lt (blk_lt (g := gb481) (o := .cells #[.int .i64 0, .int .i64 0, .string (⟨#[]⟩ : ByteArray), .slice none 0 0] 54 (0, 0)) (rb BK481.out)) : gb481 ≠ gb482)); have n8_ := Aside0.mk ((by rw [hg]; exact Nat.ne_of_gt (blk_lt (g := gb481) (o := .cells #[.int .i64 0, .int .i64 0, .string (⟨#[]⟩ : ByteArray), .slice none 0 0] 54 (0, 0)) (rb BK481.out)) : gb482 ≠ gb481)); clear HO474; clear HO480; clear BK481; clear HB; have HO474 := n0_; have HO480 := n1_; have BK481 := n2_; have HB := n3_; have BK482 := n4_; have GW482 := n5_; have GE482 := n6_; have NB481_482 := n7_; have NB482_481 := n8_; clear n0_ n1_ n2_ n3_ n4_ n5_ n6_ n7_ n8_; clear hb hbox hg; have hnb10 := NB481_482.out; have hnc10 := NB482_481.out; have hcz11_0 : w9.cell? ⟨gb481, 0, none⟩ = some (.int .i64 0) := (blk_cell BK481.out 0).trans rfl; have hcz11_1 : w9.cell? ⟨gb481, 1, none⟩ = some (.int .i64 0) := (blk_cell BK481.out 1).trans rfl; have hcz11_2 : w9.cell? ⟨gb481, 2, none⟩ = some (.string (⟨#[]⟩ : ByteArray)) := (blk_cell BK481.out 2).trans rfl; have hcz11_3 : w9.cell? ⟨gb481, 3, none⟩ = some (.slice none 0 0) := (blk_cell BK481.out 3).trans rfl; have hfz11_0 := blk_frozen BK481.out 0; have hfz11_1 := blk_frozen BK481.out 1; have hfz11_2 := blk_frozen BK481.out 2; have hfz11_3 := blk_frozen BK481.out 3; obtain ⟨Ao12, co12, eo12⟩ := Kd.N_slice HO474.out; subst eo12; have hcz13_0 : w9.cell? ⟨gb482, 0, none⟩ = some (.int .i64 0) := (blk_cell BK482.out 0).trans rfl; have hcz13_1 : w9.cell? ⟨gb482, 1, none⟩ = some (.int .i64 0) := (blk_cell BK482.out 1).trans rfl; have hcz13_2 : w9.cell? ⟨gb482, 2, none⟩ = some (.string (⟨#[]⟩ : ByteArray)) := (blk_cell BK482.out 2).trans rfl; have hcz13_3 : w9.cell? ⟨gb482, 3, none⟩ = some (.slice none 0 0) := (blk_cell BK482.out 3).trans rfl; have hfz13_0 := blk_frozen BK482.out 0; have hfz13_1 := blk_frozen BK482.out 1; have hfz13_2 := blk_frozen BK482.out 2; have hfz13_3 := blk_frozen BK482.out 3; obtain ⟨Ao14, co14, eo14⟩ := Kd.N_slice HO480.out; subst eo14) | ((with_reducible refine gate_callee (f := 31) rfl ?_); refine goesL_ (some 28) rfl rfl Try.func31 (by kernel_rfl) rfl #[] rfl (by (try simp only [List.map_toArray, List.map_cons, List.map_nil]); first | done | rfl | (simp only [List.length_drop, List.length_take]; rfl)) ?_; (with_reducible refine (precinctlaw18_wakes.calls k  true _ A5.out).mono ?_); rintro e w15 ⟨rfl, hb⟩; refine ⟨_, rfl, ?_⟩; have n0_ := Aside0.mk (Kd.N_below (kN ((Kd.N_mono (Kd.N_mono (Kd.N_far (p := ⟨gb482, 3, none⟩) (Kd.N_far (p := ⟨gb482, 2, none⟩) (Kd.N_far (p := ⟨gb482, 1, none⟩) (Kd.N_far (p := ⟨gb482, 0, none⟩) (Kd.N_far (p := ⟨gb481, 3, none⟩) (Kd.N_far (p := ⟨gb481, 2, none⟩) (Kd.N_far (p := ⟨gb481, 1, none⟩) (Kd.N_far (p := ⟨gb481, 0, none⟩) (Kd.N_mono (Kd.N_mono HO474.out (fun k_ hk => (⟨hk, hk.1.2⟩ : _ ∧ k_ ≠ gb481))) (fun k_ hk => (⟨hk, hk.1.2⟩ : _ ∧ k_ ≠ gb482))) (fun _ hk => hk.1.2) (.int .i64 t469)) (fun _ hk => hk.1.2) (.int .i64 t470)) (fun _ hk => hk.1.2) (.string t471)) (fun _ hk => hk.1.2) (.slice Ao12 t472.length co12)) (fun _ hk => hk.2) (.int .i64 t475)) (fun _ hk => hk.2) (.int .i64 t476)) (fun _ hk => hk.2) (.string t477)) (fun _ hk => hk.2) (.slice Ao14 t478.length co14)) (fun _ h_ => h_.1)) (fun _ h_ => h_.1)))) hb); have n1_ := Aside0.mk (Kd.N_below (kN ((Kd.N_mono (Kd.N_mono (Kd.N_far (p := ⟨gb482, 3, none⟩) (Kd.N_far (p := ⟨gb482, 2, none⟩) (Kd.N_far (p := ⟨gb482, 1, none⟩) (Kd.N_far (p := ⟨gb482, 0, none⟩) (Kd.N_far (p := ⟨gb481, 3, none⟩) (Kd.N_far (p := ⟨gb481, 2, none⟩) (Kd.N_far (p := ⟨gb481, 1, none⟩) (Kd.N_far (p := ⟨gb481, 0, none⟩) (Kd.N_mono (Kd.N_mono HO480.out (fun k_ hk => (⟨hk, hk.1.2⟩ : _ ∧ k_ ≠ gb481))) (fun k_ hk => (⟨hk, hk.1.2⟩ : _ ∧ k_ ≠ gb482))) (fun _ hk => hk.1.2) (.int .i64 t469)) (fun _ hk => hk.1.2) (.int .i64 t470)) (fun _ hk => hk.1.2) (.string t471)) (fun _ hk => hk.1.2) (.slice Ao12 t472.length co12)) (fun _ hk => hk.2) (.int .i64 t475)) (fun _ hk => hk.2) (.int .i64 t476)) (fun _ hk => hk.2) (.string t477)) (fun _ hk => hk.2) (.slice Ao14 t478.length co14)) (fun _ h_ => h_.1)) (fun _ h_ => h_.1)))) hb); have n2_ := Aside0.mk (blk_below (rb (blk_far (rb (blk_far (rb (blk_far (rb (blk_far (rb (blk_put (cs := #[.int .i64 t469, .int .i64 t470, .string t471, .slice none 0 0]) (rb (blk_put (cs := #[.int .i64 t469, .int .i64 t470, .string (⟨#[]⟩ : ByteArray), .slice none 0 0]) (rb (blk_put (cs := #[.int .i64 t469, .int .i64 0, .string (⟨#[]⟩ : ByteArray), .slice none 0 0]) (rb (blk_put (cs := #[.int .i64 0, .int .i64 0, .string (⟨#[]⟩ : ByteArray), .slice none 0 0]) (rb BK481.out) 0 _ rfl)) 1 _ rfl)) 2 _ rfl)) 3 _ rfl)) NB481_482.out _)) NB481_482.out _)) NB481_482.out _)) NB481_482.out _)) hb); have n3_ := Aside0.mk (blk_below (rb (blk_put (cs := #[.int .i64 t475, .int .i64 t476, .string t477, .slice none 0 0]) (rb (blk_put (cs := #[.int .i64 t475, .int .i64 t476, .string (⟨#[]⟩ : ByteArray), .slice none 0 0]) (rb (blk_put (cs := #[.int .i64 t475, .int .i64 0, .string (⟨#[]⟩ : ByteArray), .slice none 0 0]) (rb (blk_put (cs := #[.int .i64 0, .int .i64 0, .string (⟨#[]⟩ : ByteArray), .slice none 0 0]) (rb (blk_far (rb (blk_far (rb (blk_far (rb (blk_far (rb BK482.out) NB482_481.out _)) NB482_481.out _)) NB482_481.out _)) NB482_481.out _)) 0 _ rfl)) 1 _ rfl)) 2 _ rfl)) 3 _ rfl)) hb); have n4_ := Aside0.mk (below_step bb hb); clear HO474; clear HO480; clear BK481; clear BK482; clear HB; have HO474 := n0_; have HO480 := n1_; have BK481 := n2_; have BK482 := n3_; have HB := n4_; clear n0_ n1_ n2_ n3_ n4_; (try clear hb); (try clear hb2); (try clear hk); (try clear hi)))
  go_loopg [30] k (fun kq v30 w' => ∃ (x30_1 : Int), v30 = .int .i64 x30_1 ∧ Aside0 (precinctlaw18_OpBack.l0 kq a0 a1 x30_1 t469 t470 t471 t472 = some r) ∧ Aside0 (kq ≤ k) ∧ Aside0 (Kd.N k54 54 w' w.heap.size (fun k_ => some k_ ≠ ((.slice Ao14 t478.length co14) : Value).ownBlock ∧ k_ ≠ gb481 ∧ k_ ≠ gb482) (.slice Ao12 t472.length co12) t472) ∧ Aside0 (Kd.N k57 57 w' w.heap.size (fun k_ => some k_ ≠ ((.slice Ao12 t472.length co12) : Value).ownBlock ∧ k_ ≠ gb481 ∧ k_ ≠ gb482) (.slice Ao14 t478.length co14) t478) ∧ Aside0 (w'.heap[gb481]? = some (.cells #[.int .i64 t469, .int .i64 t470, .string t471, (.slice Ao12 t472.length co12)] 54 (0, 0))) ∧ Aside0 (w'.heap[gb482]? = some (.cells #[.int .i64 t475, .int .i64 t476, .string t477, (.slice Ao14 t478.length co14)] 57 (0, 0))) ∧ Aside0 (Below w.heap.size w w'))
  case atStart => exact ⟨(0), (by first | rfl | (simp; done) | (simp [*]; done)), H', ⟨Nat.le_refl _⟩, ⟨kN (Kd.N_mono HO474.out (fun _ hk => ⟨hk.1.1, ⟨hk.1.2, hk.2⟩⟩))⟩, ⟨kN (Kd.N_mono HO480.out (fun _ hk => ⟨hk.1.1, ⟨hk.1.2, hk.2⟩⟩))⟩, ⟨by (with_reducible repeat (first | refine blk_drewN ?_ _ | refine blk_drew ?_ | refine blk_alloc ?_ _)); exact BK481.out⟩, ⟨by (with_reducible repeat (first | refine blk_drewN ?_ _ | refine blk_drew ?_ | refine blk_alloc ?_ _)); exact BK482.out⟩, ⟨bb⟩⟩
  case round =>
   clear H'
   try clear c1
   try clear c2
   try clear p2
   try clear c3
   try clear c6
   try clear c10
   try clear c11
   try clear hcz11_0
   try clear hcz11_1
   try clear hcz11_2
   try clear hcz11_3
   try clear hcz13_0
   try clear hcz13_1
   try clear hcz13_2
   try clear hcz13_3
   try clear hfz11_0
   try clear hfz11_1
   try clear hfz11_2
   try clear hfz11_3
   try clear hfz13_0
   try clear hfz13_1
   try clear hfz13_2
   try clear hfz13_3
   obtain ⟨x30_1, rfl, HA, HK1, HO_482003, HO_483003, BK481, BK482, HB⟩ := hrel
   cases gk with
   | zero => exact absurd HA.out (by simp [precinctlaw18_OpBack.l0])
   | succ k1 =>
    have H := HA.out
    clear HA
    simp only [precinctlaw18_OpBack.l0] at H
    by_cases c16 : x30_1 < 10
    ·rw [if_pos c16] at H
     have c16b0 : decide (x30_1 < 10) = true := decide_eq_true c16
     clear c16
     replace H := Option.bind_eq_some_iff.mp H
     obtain ⟨⟨t484, t485⟩, A170, H⟩ := H
     replace H : (if t485 = 0 then ((op_Get.f k1 t484).bind fun bt486 => (if bt486.2.2.2 = 0 then (if bt486.1.toList = a1.toList then (if bt486.2.1 = x30_1 then ((pack_All.f bt486.2.2.1).bind fun bt493 => ((pack_All.f t472).bind fun bt499 => ((pack_Equal.f bt493.1 bt493.2.1 bt493.2.2.1 bt493.2.2.2 bt499.1 bt499.2.1 bt499.2.2.1 bt499.2.2.2).bind fun t505 => (if t505 = true then (precinctlaw18_OpBack.l0 k1 a0 a1 (wrap64 (x30_1 + 1)) t469 t470 t471 t472) else (some false))))) else (some false)) else (some false)) else (some false))) else (precinctlaw18_OpBack.l0 k1 a0 a1 (wrap64 (x30_1 + 1)) t469 t470 t471 t472)) = some r := H
     have A17 := Aside0.mk A170
     clear A170
     by_cases c18 : t485 = 0
     ·rw [if_pos c18] at H
      have c18b0 : (t485 == 0) = true := beq_iff_eq.mpr c18
      have c18b1 : (t485 != 0) = false := bne_eq_false_iff_eq.mpr c18
      clear c18
      replace H := Option.bind_eq_some_iff.mp H
      obtain ⟨⟨t486, t487, t488, t491⟩, A190, H⟩ := H
      replace H : (if t491 = 0 then (if t486.toList = a1.toList then (if t487 = x30_1 then ((pack_All.f t488).bind fun bt493 => ((pack_All.f t472).bind fun bt499 => ((pack_Equal.f bt493.1 bt493.2.1 bt493.2.2.1 bt493.2.2.2 bt499.1 bt499.2.1 bt499.2.2.1 bt499.2.2.2).bind fun t505 => (if t505 = true then (precinctlaw18_OpBack.l0 k1 a0 a1 (wrap64 (x30_1 + 1)) t469 t470 t471 t472) else (some false))))) else (some false)) else (some false)) else (some false)) = some r := H
      have A19 := Aside0.mk A190
      clear A190
      by_cases c20 : t491 = 0
      ·rw [if_pos c20] at H
       have c20b0 : (t491 == 0) = true := beq_iff_eq.mpr c20
       have c20b1 : (t491 != 0) = false := bne_eq_false_iff_eq.mpr c20
       clear c20
       by_cases c21 : t486.toList = a1.toList
       ·rw [if_pos c21] at H
        have c21b0 : (t486.toList == a1.toList) = true := beq_iff_eq.mpr c21
        have c21b1 : (t486.toList != a1.toList) = false := bne_eq_false_iff_eq.mpr c21
        clear c21
        by_cases c22 : t487 = x30_1
        ·rw [if_pos c22] at H
         have c22b0 : (t487 == x30_1) = true := beq_iff_eq.mpr c22
         have c22b1 : (t487 != x30_1) = false := bne_eq_false_iff_eq.mpr c22
         clear c22
         replace H := Option.bind_eq_some_iff.mp H
         obtain ⟨⟨t493, t494, t495, t496⟩, A230, H⟩ := H
         replace H : ((pack_All.f t472).bind fun bt499 => ((pack_Equal.f t493 t494 t495 t496 bt499.1 bt499.2.1 bt499.2.2.1 bt499.2.2.2).bind fun t505 => (if t505 = true then (precinctlaw18_OpBack.l0 k1 a0 a1 (wrap64 (x30_1 + 1)) t469 t470 t471 t472) else (some false)))) = some r := H
         have A23 := Aside0.mk A230
         clear A230
         replace H := Option.bind_eq_some_iff.mp H
         obtain ⟨⟨t499, t500, t501, t502⟩, A240, H⟩ := H
         replace H : ((pack_Equal.f t493 t494 t495 t496 t499 t500 t501 t502).bind fun t505 => (if t505 = true then (precinctlaw18_OpBack.l0 k1 a0 a1 (wrap64 (x30_1 + 1)) t469 t470 t471 t472) else (some false))) = some r := H
         have A24 := Aside0.mk A240
         clear A240
         replace H := Option.bind_eq_some_iff.mp H
         obtain ⟨t505, A250, H⟩ := H
         replace H : (if t505 = true then (precinctlaw18_OpBack.l0 k1 a0 a1 (wrap64 (x30_1 + 1)) t469 t470 t471 t472) else (some false)) = some r := H
         have A25 := Aside0.mk A250
         clear A250
         by_cases c26 : t505 = true
         ·subst c26
          have H1 : (precinctlaw18_OpBack.l0 k1 a0 a1 (wrap64 (x30_1 + 1)) t469 t470 t471 t472) = some r := by rw [if_pos rfl] at H; exact H
          clear H
          have H := H1
          clear H1
          have H' := Aside0.mk H
          clear H
          have hnb27 := NB481_482.out
          have hnc27 := NB482_481.out
          have hcz28_0 : wr.cell? ⟨gb481, 0, none⟩ = some (.int .i64 t469) := (blk_cell BK481.out 0).trans rfl
          have hcz28_1 : wr.cell? ⟨gb481, 1, none⟩ = some (.int .i64 t470) := (blk_cell BK481.out 1).trans rfl
          have hcz28_2 : wr.cell? ⟨gb481, 2, none⟩ = some (.string t471) := (blk_cell BK481.out 2).trans rfl
          have hcz28_3 : wr.cell? ⟨gb481, 3, none⟩ = some (.slice Ao12 t472.length co12) := (blk_cell BK481.out 3).trans rfl
          have hfz28_0 := blk_frozen BK481.out 0
          have hfz28_1 := blk_frozen BK481.out 1
          have hfz28_2 := blk_frozen BK481.out 2
          have hfz28_3 := blk_frozen BK481.out 3
          try go_wp2_with (first | ((with_reducible refine gate_callee (f := 29) rfl ?_); refine goesL_ (some 39) rfl rfl Try.func29 (by kernel_rfl) rfl #[.agg #[.string a1, .int .i64 x30_1, .slice Ao12 t472.length co12]] rfl (by (try simp only [List.map_toArray, List.map_cons, List.map_nil]); first | done | rfl | (simp only [List.length_drop, List.length_take]; rfl)) ?_; (with_reducible refine (op_Put.calls k1 a1 x30_1 _ _ t472 t484 t485 _ ?side1 ?side2 A17.out).mono ?_); (case side1 => repeat (first | exact (Kd.N_reads' HO_482003.out).2.2 | (with_reducible refine Kd.C_alloc ?_ _) | (with_reducible refine Kd.C_drewN ?_ _) | (with_reducible refine Kd.C_drew ?_))); (case side2 => exact (Kd.N_reads' HO_482003.out).2.1); rintro e w29 ⟨rfl, hb⟩; refine ⟨_, rfl, ?_⟩; have n0_ := Aside0.mk (Kd.N_below (kN HO_482003.out) hb); have n1_ := Aside0.mk (Kd.N_below (kN HO_483003.out) hb); have n2_ := Aside0.mk (blk_below (rb BK481.out) hb); have n3_ := Aside0.mk (blk_below (rb BK482.out) hb); have n4_ := Aside0.mk (below_step bb hb); clear HO_482003; clear HO_483003; clear BK481; clear BK482; clear HB; have HO_482003 := n0_; have HO_483003 := n1_; have BK481 := n2_; have BK482 := n3_; have HB := n4_; clear n0_ n1_ n2_ n3_ n4_; (try clear hb); (try clear hb2); (try clear hk); (try clear hi)) | ((with_reducible refine gate_callee (f := 34) rfl ?_); refine goesL_ (some 46) rfl rfl Try.func34 (by kernel_rfl) rfl #[.string t484] rfl (by (try simp only [List.map_toArray, List.map_cons, List.map_nil]); first | done | rfl | (simp only [List.length_drop, List.length_take]; rfl)) ?_; (with_reducible refine (op_Get.calls k1 t484 t486 t487 t488 t491 _ A19.out).mono ?_); rintro e w30 ⟨v489, rfl, ho0, hb⟩; refine ⟨_, rfl, ?_⟩; have n0_ := Aside0.mk (Kd.N_elder' (kN HO_482003.out) (by first | exact Kd.N_base ho0 | exact Kd.N_base (Kd.R_N ho0)) hb); have n1_ := Aside0.mk (Kd.N_elder' (kN HO_483003.out) (by first | exact Kd.N_base ho0 | exact Kd.N_base (Kd.R_N ho0)) hb); have n2_ := Aside0.mk (Kd.N_lower (Kd.N_mono (ok' := fun k_ => some k_ ≠ (.slice Ao12 t472.length co12 : Value).ownBlock ∧ some k_ ≠ (.slice Ao14 t478.length co14 : Value).ownBlock ∧ k_ ≠ gb481 ∧ k_ ≠ gb482) (Kd.R_N (Kd.R_bound ho0)) (fun k_ hk_ => ⟨(Kd.fresh' (Kd.N_lt (kN HO_482003.out)) k_ hk_.2.1), (Kd.fresh' (Kd.N_lt (kN HO_483003.out)) k_ hk_.2.1), (Kd.freshB (rb BK481.out) k_ hk_.2.1), (Kd.freshB (rb BK482.out) k_ hk_.2.1)⟩)) (below_size bb)); have n3_ := Aside0.mk (blk_below (rb BK481.out) hb); have n4_ := Aside0.mk (blk_below (rb BK482.out) hb); have n5_ := Aside0.mk (below_step bb hb); clear HO_482003; clear HO_483003; clear BK481; clear BK482; clear HB; have HO_482003 := n0_; have HO_483003 := n1_; have HO490 := n2_; have BK481 := n3_; have BK482 := n4_; have HB := n5_; clear n0_ n1_ n2_ n3_ n4_ n5_; (try clear hb); (try clear hb2); (try clear hk); (try clear hi); (try clear ho0)) | ((with_reducible refine gate_dst (N := 12) rfl ?_); refine box_event ?hg (N := 12) ?hd (cs := #[.string (⟨#[]⟩ : ByteArray), .int .i64 0, .slice none 0 0]) (t := 75) ?hr ?_; (case hd => rfl); (case hg => rfl); (case hr => first | (go_simp; done) | (go_simp; rfl)); intro gb492 hg w31 hbox hb; have n0_ := Aside0.mk (Kd.N_below (Kd.N_elderB (kN HO_482003.out) gb492 (Nat.le_of_eq hg.symm)) hb); have n1_ := Aside0.mk (Kd.N_below (Kd.N_elderB (kN HO_483003.out) gb492 (Nat.le_of_eq hg.symm)) hb); have n2_ := Aside0.mk (Kd.N_below (Kd.N_elderB (kN HO490.out) gb492 (Nat.le_of_eq hg.symm)) hb); have n3_ := Aside0.mk (blk_below (rb BK481.out) hb); have n4_ := Aside0.mk (blk_below (rb BK482.out) hb); have n5_ := Aside0.mk (below_step bb hb); have n6_ := Aside0.mk (hbox); have n7_ := Aside0.mk ((by rw [hg]; exact (below_size bb) : w.heap.size ≤ gb492)); have n8_ := Aside0.mk ((by rw [hg]; exact (below_size bb) : w.heap.size ≤ gb492)); have n9_ := Aside0.mk ((by rw [hg]; exact Nat.ne_of_lt (blk_lt (rb BK481.out)) : gb481 ≠ gb492)); have n10_ := Aside0.mk ((by rw [hg]; exact Nat.ne_of_gt (blk_lt (rb BK481.out)) : gb492 ≠ gb481)); have n11_ := Aside0.mk ((by rw [hg]; exact Nat.ne_of_lt (blk_lt (rb BK482.out)) : gb482 ≠ gb492)); have n12_ := Aside0.mk ((by rw [hg]; exact Nat.ne_of_gt (blk_lt (rb BK482.out)) : gb492 ≠ gb482)); clear HO_482003; clear HO_483003; clear HO490; clear BK481; clear BK482; clear HB; have HO_482003 := n0_; have HO_483003 := n1_; have HO490 := n2_; have BK481 := n3_; have BK482 := n4_; have HB := n5_; have BK492 := n6_; have GW492 := n7_; have GE492 := n8_; have NB481_492 := n9_; have NB492_481 := n10_; have NB482_492 := n11_; have NB492_482 := n12_; clear n0_ n1_ n2_ n3_ n4_ n5_ n6_ n7_ n8_ n9_ n10_ n11_ n12_; clear hb hbox hg; have hnb32 := NB492_481.out; have hnc32 := NB481_492.out; have hnb33 := NB492_482.out; have hnc33 := NB482_492.out; have hcz34_0 : w31.cell? ⟨gb492, 0, none⟩ = some (.string (⟨#[]⟩ : ByteArray)) := (blk_cell BK492.out 0).trans rfl; have hcz34_1 : w31.cell? ⟨gb492, 1, none⟩ = some (.int .i64 0) := (blk_cell BK492.out 1).trans rfl; have hcz34_2 : w31.cell? ⟨gb492, 2, none⟩ = some (.slice none 0 0) := (blk_cell BK492.out 2).trans rfl; have hfz34_0 := blk_frozen BK492.out 0; have hfz34_1 := blk_frozen BK492.out 1; have hfz34_2 := blk_frozen BK492.out 2; obtain ⟨Ao35, co35, eo35⟩ := Kd.N_slice HO490.out; subst eo35))
          have n0_ : Aside0 (Kd.N k54 54 (((w31.setCell ⟨gb492, 0, none⟩ (.string t486)).setCell ⟨gb492, 1, none⟩ (.int .i64 t487)).setCell ⟨gb492, 2, none⟩ (.slice Ao35 t488.length co35)) w.heap.size (fun k_ => some k_ ≠ (.slice Ao14 t478.length co14 : Value).ownBlock ∧ some k_ ≠ (.slice Ao35 t488.length co35 : Value).ownBlock ∧ k_ ≠ gb481 ∧ k_ ≠ gb482 ∧ k_ ≠ gb492) (.slice Ao12 t472.length co12) t472) := ⟨kN (Kd.N_mono (Kd.N_far (p := ⟨gb492, 2, none⟩) (Kd.N_far (p := ⟨gb492, 1, none⟩) (Kd.N_far (p := ⟨gb492, 0, none⟩) (Kd.N_mono HO_482003.out (fun k_ hk => (⟨hk, hk.2⟩ : _ ∧ k_ ≠ gb492))) (fun _ hk => hk.2) (.string t486)) (fun _ hk => hk.2) (.int .i64 t487)) (fun _ hk => hk.2) (.slice Ao35 t488.length co35)) (fun _ hk => ⟨hk.1.1.1.1, ⟨hk.1.1.2, ⟨hk.1.1.1.2.1, ⟨hk.1.1.1.2.2, hk.1.2⟩⟩⟩⟩))⟩
          have n1_ : Aside0 (Kd.N k57 57 (((w31.setCell ⟨gb492, 0, none⟩ (.string t486)).setCell ⟨gb492, 1, none⟩ (.int .i64 t487)).setCell ⟨gb492, 2, none⟩ (.slice Ao35 t488.length co35)) w.heap.size (fun k_ => some k_ ≠ (.slice Ao12 t472.length co12 : Value).ownBlock ∧ some k_ ≠ (.slice Ao35 t488.length co35 : Value).ownBlock ∧ k_ ≠ gb481 ∧ k_ ≠ gb482 ∧ k_ ≠ gb492) (.slice Ao14 t478.length co14) t478) := ⟨kN (Kd.N_mono (Kd.N_far (p := ⟨gb492, 2, none⟩) (Kd.N_far (p := ⟨gb492, 1, none⟩) (Kd.N_far (p := ⟨gb492, 0, none⟩) (Kd.N_mono HO_483003.out (fun k_ hk => (⟨hk, hk.2⟩ : _ ∧ k_ ≠ gb492))) (fun _ hk => hk.2) (.string t486)) (fun _ hk => hk.2) (.int .i64 t487)) (fun _ hk => hk.2) (.slice Ao35 t488.length co35)) (fun _ hk => ⟨hk.1.1.1.1, ⟨hk.1.1.2, ⟨hk.1.1.1.2.1, ⟨hk.1.1.1.2.2, hk.1.2⟩⟩⟩⟩))⟩
          have n2_ : Aside0 (Kd.N k54 54 (((w31.setCell ⟨gb492, 0, none⟩ (.string t486)).setCell ⟨gb492, 1, none⟩ (.int .i64 t487)).setCell ⟨gb492, 2, none⟩ (.slice Ao35 t488.length co35)) w.heap.size (fun k_ => some k_ ≠ (.slice Ao12 t472.length co12 : Value).ownBlock ∧ some k_ ≠ (.slice Ao14 t478.length co14 : Value).ownBlock ∧ k_ ≠ gb481 ∧ k_ ≠ gb482 ∧ k_ ≠ gb492) (.slice Ao35 t488.length co35) t488) := ⟨kN (Kd.N_mono (Kd.N_far (p := ⟨gb492, 2, none⟩) (Kd.N_far (p := ⟨gb492, 1, none⟩) (Kd.N_far (p := ⟨gb492, 0, none⟩) (Kd.N_mono HO490.out (fun k_ hk => (⟨hk, hk.2⟩ : _ ∧ k_ ≠ gb492))) (fun _ hk => hk.2) (.string t486)) (fun _ hk => hk.2) (.int .i64 t487)) (fun _ hk => hk.2) (.slice Ao35 t488.length co35)) (fun _ hk => ⟨hk.1.1.1, ⟨hk.1.1.2.1, ⟨hk.1.1.2.2.1, ⟨hk.1.1.2.2.2, hk.1.2⟩⟩⟩⟩))⟩
          have n3_ : Aside0 ((((w31.setCell ⟨gb492, 0, none⟩ (.string t486)).setCell ⟨gb492, 1, none⟩ (.int .i64 t487)).setCell ⟨gb492, 2, none⟩ (.slice Ao35 t488.length co35)).heap[gb481]? = some (.cells #[.int .i64 t469, .int .i64 t470, .string t471, .slice Ao12 t472.length co12] 54 (0, 0))) := ⟨by (with_reducible repeat (first | refine blk_drewN ?_ _ | refine blk_drew ?_ | refine blk_alloc ?_ _)); refine blk_far ?_ NB481_492.out _; (with_reducible repeat (first | refine blk_drewN ?_ _ | refine blk_drew ?_ | refine blk_alloc ?_ _)); refine blk_far ?_ NB481_492.out _; (with_reducible repeat (first | refine blk_drewN ?_ _ | refine blk_drew ?_ | refine blk_alloc ?_ _)); refine blk_far ?_ NB481_492.out _; (with_reducible repeat (first | refine blk_drewN ?_ _ | refine blk_drew ?_ | refine blk_alloc ?_ _)); exact BK481.out⟩
          have n4_ : Aside0 ((((w31.setCell ⟨gb492, 0, none⟩ (.string t486)).setCell ⟨gb492, 1, none⟩ (.int .i64 t487)).setCell ⟨gb492, 2, none⟩ (.slice Ao35 t488.length co35)).heap[gb482]? = some (.cells #[.int .i64 t475, .int .i64 t476, .string t477, .slice Ao14 t478.length co14] 57 (0, 0))) := ⟨by (with_reducible repeat (first | refine blk_drewN ?_ _ | refine blk_drew ?_ | refine blk_alloc ?_ _)); refine blk_far ?_ NB482_492.out _; (with_reducible repeat (first | refine blk_drewN ?_ _ | refine blk_drew ?_ | refine blk_alloc ?_ _)); refine blk_far ?_ NB482_492.out _; (with_reducible repeat (first | refine blk_drewN ?_ _ | refine blk_drew ?_ | refine blk_alloc ?_ _)); refine blk_far ?_ NB482_492.out _; (with_reducible repeat (first | refine blk_drewN ?_ _ | refine blk_drew ?_ | refine blk_alloc ?_ _)); exact BK482.out⟩
          have n5_ : Aside0 ((((w31.setCell ⟨gb492, 0, none⟩ (.string t486)).setCell ⟨gb492, 1, none⟩ (.int .i64 t487)).setCell ⟨gb492, 2, none⟩ (.slice Ao35 t488.length co35)).heap[gb492]? = some (.cells #[.string t486, .int .i64 t487, .slice Ao35 t488.length co35] 75 (0, 0))) := ⟨by (with_reducible repeat (first | refine blk_drewN ?_ _ | refine blk_drew ?_ | refine blk_alloc ?_ _)); refine blk_put (cs := #[.string t486, .int .i64 t487, .slice none 0 0]) ?_ 2 _ rfl; (with_reducible repeat (first | refine blk_drewN ?_ _ | refine blk_drew ?_ | refine blk_alloc ?_ _)); refine blk_put (cs := #[.string t486, .int .i64 0, .slice none 0 0]) ?_ 1 _ rfl; (with_reducible repeat (first | refine blk_drewN ?_ _ | refine blk_drew ?_ | refine blk_alloc ?_ _)); refine blk_put (cs := #[.string (⟨#[]⟩ : ByteArray), .int .i64 0, .slice none 0 0]) ?_ 0 _ rfl; (with_reducible repeat (first | refine blk_drewN ?_ _ | refine blk_drew ?_ | refine blk_alloc ?_ _)); exact BK492.out⟩
          have n6_ : Aside0 (Below w.heap.size w (((w31.setCell ⟨gb492, 0, none⟩ (.string t486)).setCell ⟨gb492, 1, none⟩ (.int .i64 t487)).setCell ⟨gb492, 2, none⟩ (.slice Ao35 t488.length co35))) := ⟨bb⟩
          (try clear HO_482003)
          (try clear HO_483003)
          (try clear HO490)
          (try clear BK481)
          (try clear BK482)
          (try clear BK492)
          (try clear HB)
          generalize (((w31.setCell ⟨gb492, 0, none⟩ (.string t486)).setCell ⟨gb492, 1, none⟩ (.int .i64 t487)).setCell ⟨gb492, 2, none⟩ (.slice Ao35 t488.length co35)) = w36 at n0_ n1_ n2_ n3_ n4_ n5_ n6_ ⊢
          have HO_482003 := n0_
          have HO_483003 := n1_
          have HO490 := n2_
          have BK481 := n3_
          have BK482 := n4_
          have BK492 := n5_
          have HB := n6_
          clear n0_ n1_ n2_ n3_ n4_ n5_ n6_
          have n0_ := Aside0.mk (Kd.N_drew HO_482003.out)
          have n1_ := Aside0.mk (Kd.N_drew HO_483003.out)
          have n2_ := Aside0.mk (Kd.N_drew HO490.out)
          have n3_ := Aside0.mk (blk_drew BK481.out)
          have n4_ := Aside0.mk (blk_drew BK482.out)
          have n5_ := Aside0.mk (blk_drew BK492.out)
          have n6_ := Aside0.mk (below_drew1 HB.out)
          clear HO_482003
          clear HO_483003
          clear HO490
          clear BK481
          clear BK482
          clear BK492
          clear HB
          have HO_482003 := n0_
          have HO_483003 := n1_
          have HO490 := n2_
          have BK481 := n3_
          have BK482 := n4_
          have BK492 := n5_
          have HB := n6_
          clear n0_ n1_ n2_ n3_ n4_ n5_ n6_
          refine start_ (n := 24) (S := fun w' => w'.cell? ⟨gb492, 0, none⟩ = some (.string t486) ∧ w'.cell? ⟨gb492, 1, none⟩ = some (.int .i64 t487) ∧ w'.cell? ⟨gb492, 2, none⟩ = some (.slice Ao35 t488.length co35) ∧ w'.cell? ⟨gb481, 0, none⟩ = some (.int .i64 t469) ∧ w'.cell? ⟨gb481, 1, none⟩ = some (.int .i64 t470) ∧ w'.cell? ⟨gb481, 2, none⟩ = some (.string t471) ∧ w'.cell? ⟨gb481, 3, none⟩ = some (.slice Ao12 t472.length co12)) (ds := []) #[false, false, false, false, false, false, false, false, false, false, false, false, false, false, false, false, false, false, false, false, false, false, false, false] (by kernel_rfl) rfl rfl ⟨(blk_cell BK492.out 0).trans rfl, (blk_cell BK492.out 1).trans rfl, (blk_cell BK492.out 2).trans rfl, (blk_cell BK481.out 0).trans rfl, (blk_cell BK481.out 1).trans rfl, (blk_cell BK481.out 2).trans rfl, (blk_cell BK481.out 3).trans rfl⟩ (fun hHeld => ?_); refine with_tabW precinctlaw18_OpBack.tab10 precinctlaw18_OpBack.bits10 (fun HT_ HW_ => ?_)
          generalize w36.drew = w37 at HO_482003 HO_483003 HO490 BK481 BK482 BK492 HB hHeld ⊢
          refine pure_ (i := 0) (N := some 49) (v := ?_) (a' := ?_) #[true, false, false, false, false, false, false, false, false, false, false, false, false, false, false, false, false, false, false, false, false, false, false, false] rfl rfl (any_of HT_.out (by kernel_rfl)) (fun _ _ _ h => h) (Or.inl ⟨by rfl, ?_⟩) ?_ ?_
          rotate_left
          ·intro w'
           go_simp
           with_reducible rfl
          rotate_left
          ·simp only [Act.put, List.setIfInBounds_toArray, List.set_cons_zero, List.set_cons_succ, i64_w, i32_w]
           rfl
          refine pure_ (i := 1) (N := some 50) (v := ?_) (a' := ?_) #[true, true, false, false, false, false, false, false, false, false, false, false, false, false, false, false, false, false, false, false, false, false, false, false] rfl rfl (any_of HT_.out (by kernel_rfl)) (fun _ _ _ h => h) (Or.inl ⟨by rfl, ?_⟩) ?_ ?_
          rotate_left
          ·intro w'
           go_simp
           with_reducible rfl
          rotate_left
          ·simp only [Act.put, List.setIfInBounds_toArray, List.set_cons_zero, List.set_cons_succ, i64_w, i32_w]
           rfl
          refine pure_ (i := 2) (N := some 51) (v := ?_) (a' := ?_) #[true, true, true, false, false, false, false, false, false, false, false, false, false, false, false, false, false, false, false, false, false, false, false, false] rfl rfl (any_of HT_.out (by kernel_rfl)) (fun _ _ _ h => h) (Or.inl ⟨by rfl, ?_⟩) ?_ ?_
          rotate_left
          ·intro w'
           go_simp
           with_reducible rfl
          rotate_left
          ·simp only [Act.put, List.setIfInBounds_toArray, List.set_cons_zero, List.set_cons_succ, i64_w, i32_w]
           rfl
          refine pure_ (i := 3) (N := some 52) (v := ?_) (a' := ?_) #[true, true, true, true, false, false, false, false, false, false, false, false, false, false, false, false, false, false, false, false, false, false, false, false] rfl rfl (any_of HT_.out (by kernel_rfl)) (fun _ _ _ h => h) (Or.inl ⟨by rfl, ?_⟩) ?_ ?_
          rotate_left
          ·intro w'
           go_simp
           with_reducible rfl
          rotate_left
          ·simp only [Act.put, List.setIfInBounds_toArray, List.set_cons_zero, List.set_cons_succ, i64_w, i32_w]
           rfl
          refine pure_ (i := 5) (N := some 54) (v := ?_) (a' := ?_) #[true, true, true, true, false, true, false, false, false, false, false, false, false, false, false, false, false, false, false, false, false, false, false, false] rfl rfl (any_of HT_.out (by kernel_rfl)) (fun _ _ _ h => h) (Or.inl ⟨by rfl, ?_⟩) ?_ ?_
          rotate_left
          ·intro w'
           go_simp
           with_reducible rfl
          rotate_left
          ·simp only [Act.put, List.setIfInBounds_toArray, List.set_cons_zero, List.set_cons_succ, i64_w, i32_w]
           rfl
          refine take_ (i := 4) (N := some 53) (v := ?_) (a' := ?_) #[true, true, true, true, true, true, false, false, false, false, false, false, false, false, false, false, false, false, false, false, false, false, false, false] rfl rfl (take_ofW HT_.out HW_.out (by kernel_rfl)) (fun _ _ _ h => h) (Or.inl ⟨by rfl, ?_⟩) hHeld ?_ ?_
          rotate_left
          ·rintro w' ⟨s0, s1, s2, s3, s4, s5, s6⟩
           go_simp
           with_reducible rfl
          rotate_left
          ·simp only [Act.put, List.setIfInBounds_toArray, List.set_cons_zero, List.set_cons_succ, i64_w, i32_w]
           rfl
          refine pure_ (i := 6) (N := some 55) (v := ?_) (a' := ?_) #[true, true, true, true, true, true, true, false, false, false, false, false, false, false, false, false, false, false, false, false, false, false, false, false] rfl rfl (any_of HT_.out (by kernel_rfl)) (fun _ _ _ h => h) (Or.inl ⟨by rfl, ?_⟩) ?_ ?_
          rotate_left
          ·intro w'
           go_simp
           with_reducible rfl
          rotate_left
          ·simp only [Act.put, List.setIfInBounds_toArray, List.set_cons_zero, List.set_cons_succ, i64_w, i32_w]
           rfl
          refine pure_ (i := 7) (N := some 56) (v := ?_) (a' := ?_) #[true, true, true, true, true, true, true, true, false, false, false, false, false, false, false, false, false, false, false, false, false, false, false, false] rfl rfl (any_of HT_.out (by kernel_rfl)) (fun _ _ _ h => h) (Or.inl ⟨by rfl, ?_⟩) ?_ ?_
          rotate_left
          ·intro w'
           go_simp
           with_reducible rfl
          rotate_left
          ·simp only [Act.put, List.setIfInBounds_toArray, List.set_cons_zero, List.set_cons_succ, i64_w, i32_w]
           rfl
          refine pure_ (i := 8) (N := some 57) (v := ?_) (a' := ?_) #[true, true, true, true, true, true, true, true, true, false, false, false, false, false, false, false, false, false, false, false, false, false, false, false] rfl rfl (any_of HT_.out (by kernel_rfl)) (fun _ _ _ h => h) (Or.inl ⟨by rfl, ?_⟩) ?_ ?_
          rotate_left
          ·intro w'
           go_simp
           with_reducible rfl
          rotate_left
          ·simp only [Act.put, List.setIfInBounds_toArray, List.set_cons_zero, List.set_cons_succ, i64_w, i32_w]
           rfl
          refine pure_ (i := 9) (N := some 58) (v := ?_) (a' := ?_) #[true, true, true, true, true, true, true, true, true, true, false, false, false, false, false, false, false, false, false, false, false, false, false, false] rfl rfl (any_of HT_.out (by kernel_rfl)) (fun _ _ _ h => h) (Or.inl ⟨by rfl, ?_⟩) ?_ ?_
          rotate_left
          ·intro w'
           go_simp
           with_reducible rfl
          rotate_left
          ·simp only [Act.put, List.setIfInBounds_toArray, List.set_cons_zero, List.set_cons_succ, i64_w, i32_w]
           rfl
          refine pure_ (i := 11) (N := some 60) (v := ?_) (a' := ?_) #[true, true, true, true, true, true, true, true, true, true, false, true, false, false, false, false, false, false, false, false, false, false, false, false] rfl rfl (any_of HT_.out (by kernel_rfl)) (fun _ _ _ h => h) (Or.inl ⟨by rfl, ?_⟩) ?_ ?_
          rotate_left
          ·intro w'
           go_simp
           with_reducible rfl
          rotate_left
          ·simp only [Act.put, List.setIfInBounds_toArray, List.set_cons_zero, List.set_cons_succ, i64_w, i32_w]
           rfl
          refine take_ (i := 10) (N := some 59) (v := ?_) (a' := ?_) #[true, true, true, true, true, true, true, true, true, true, true, true, false, false, false, false, false, false, false, false, false, false, false, false] rfl rfl (take_ofW HT_.out HW_.out (by kernel_rfl)) (fun _ _ _ h => h) (Or.inl ⟨by rfl, ?_⟩) hHeld ?_ ?_
          rotate_left
          ·rintro w' ⟨s0, s1, s2, s3, s4, s5, s6⟩
           go_simp
           with_reducible rfl
          rotate_left
          ·simp only [Act.put, List.setIfInBounds_toArray, List.set_cons_zero, List.set_cons_succ, i64_w, i32_w]
           rfl
          refine pure_ (i := 12) (N := some 61) (v := ?_) (a' := ?_) #[true, true, true, true, true, true, true, true, true, true, true, true, true, false, false, false, false, false, false, false, false, false, false, false] rfl rfl (any_of HT_.out (by kernel_rfl)) (fun _ _ _ h => h) (Or.inl ⟨by rfl, ?_⟩) ?_ ?_
          rotate_left
          ·intro w'
           go_simp
           with_reducible rfl
          rotate_left
          ·simp only [Act.put, List.setIfInBounds_toArray, List.set_cons_zero, List.set_cons_succ, i64_w, i32_w]
           rfl
          refine pure_ (i := 13) (N := some 62) (v := ?_) (a' := ?_) #[true, true, true, true, true, true, true, true, true, true, true, true, true, true, false, false, false, false, false, false, false, false, false, false] rfl rfl (any_of HT_.out (by kernel_rfl)) (fun _ _ _ h => h) (Or.inl ⟨by rfl, ?_⟩) ?_ ?_
          rotate_left
          ·intro w'
           go_simp
           with_reducible rfl
          rotate_left
          ·simp only [Act.put, List.setIfInBounds_toArray, List.set_cons_zero, List.set_cons_succ, i64_w, i32_w]
           rfl
          refine pure_ (i := 14) (N := some 63) (v := ?_) (a' := ?_) #[true, true, true, true, true, true, true, true, true, true, true, true, true, true, true, false, false, false, false, false, false, false, false, false] rfl rfl (any_of HT_.out (by kernel_rfl)) (fun _ _ _ h => h) (Or.inl ⟨by rfl, ?_⟩) ?_ ?_
          rotate_left
          ·intro w'
           go_simp
           with_reducible rfl
          rotate_left
          ·simp only [Act.put, List.setIfInBounds_toArray, List.set_cons_zero, List.set_cons_succ, i64_w, i32_w]
           rfl
          refine pure_ (i := 15) (N := some 64) (v := ?_) (a' := ?_) #[true, true, true, true, true, true, true, true, true, true, true, true, true, true, true, true, false, false, false, false, false, false, false, false] rfl rfl (any_of HT_.out (by kernel_rfl)) (fun _ _ _ h => h) (Or.inl ⟨by rfl, ?_⟩) ?_ ?_
          rotate_left
          ·intro w'
           go_simp
           with_reducible rfl
          rotate_left
          ·simp only [Act.put, List.setIfInBounds_toArray, List.set_cons_zero, List.set_cons_succ, i64_w, i32_w]
           rfl
          refine pure_ (i := 18) (N := some 67) (v := ?_) (a' := ?_) #[true, true, true, true, true, true, true, true, true, true, true, true, true, true, true, true, false, false, true, false, false, false, false, false] rfl rfl (any_of HT_.out (by kernel_rfl)) (fun _ _ _ h => h) (Or.inl ⟨by rfl, ?_⟩) ?_ ?_
          rotate_left
          ·intro w'
           go_simp
           with_reducible rfl
          rotate_left
          ·simp only [Act.put, List.setIfInBounds_toArray, List.set_cons_zero, List.set_cons_succ, i64_w, i32_w]
           rfl
          refine take_ (i := 16) (N := some 65) (v := ?_) (a' := ?_) #[true, true, true, true, true, true, true, true, true, true, true, true, true, true, true, true, true, false, true, false, false, false, false, false] rfl rfl (take_ofW HT_.out HW_.out (by kernel_rfl)) (fun _ _ _ h => h) (Or.inl ⟨by rfl, ?_⟩) hHeld ?_ ?_
          rotate_left
          ·rintro w' ⟨s0, s1, s2, s3, s4, s5, s6⟩
           go_simp
           with_reducible rfl
          rotate_left
          ·simp only [Act.put, List.setIfInBounds_toArray, List.set_cons_zero, List.set_cons_succ, i64_w, i32_w]
           rfl
          refine take_ (i := 19) (N := some 68) (v := ?_) (a' := ?_) #[true, true, true, true, true, true, true, true, true, true, true, true, true, true, true, true, true, false, true, true, false, false, false, false] rfl rfl (take_ofW HT_.out HW_.out (by kernel_rfl)) (fun _ _ _ h => h) (Or.inl ⟨by rfl, ?_⟩) hHeld ?_ ?_
          rotate_left
          ·rintro w' ⟨s0, s1, s2, s3, s4, s5, s6⟩
           go_simp
           with_reducible rfl
          rotate_left
          ·simp only [Act.put, List.setIfInBounds_toArray, List.set_cons_zero, List.set_cons_succ, i64_w, i32_w]
           rfl
          refine one_ (i := 17) (N := some 66) #[true, true, true, true, true, true, true, true, true, true, true, true, true, true, true, true, true, true, true, true, false, false, false, false] rfl rfl (one_of HT_.out (by kernel_rfl)) (by decide) (fun K hK => ?_)
          refine goes_ Try.func40 (by kernel_rfl) rfl #[.slice Ao35 t488.length co35] (by rfl) rfl rfl (by (try simp only [List.map_toArray, List.map_cons, List.map_nil]); first | done | rfl | (simp only [List.length_drop, List.length_take]; rfl)) ?_
          with_reducible refine (pack_All.calls (fun k_ => (some k_ ≠ (.slice Ao12 t472.length co12 : Value).ownBlock ∧ (some k_ ≠ (.slice Ao14 t478.length co14 : Value).ownBlock ∧ (k_ ≠ gb481 ∧ (k_ ≠ gb482 ∧ k_ ≠ gb492))))) _ _ t488 t493 t494 t495 t496 _ ?side1 A23.out).mono ?_
          (case side1 => exact Kd.N_V (HO490.out))
          rintro e w38 ⟨v497, rfl, ho0, hb⟩
          refine ⟨_, rfl, ?_⟩
          have n0_ := Aside0.mk (Kd.N_elder' (kN HO_482003.out) (by first | exact Kd.N_base ho0 | exact Kd.N_base (Kd.R_N ho0)) hb)
          have n1_ := Aside0.mk (Kd.N_elder' (kN HO_483003.out) (by first | exact Kd.N_base ho0 | exact Kd.N_base (Kd.R_N ho0)) hb)
          have n2_ := Aside0.mk (Kd.N_elder' (kN HO490.out) (by first | exact Kd.N_base ho0 | exact Kd.N_base (Kd.R_N ho0)) hb)
          have n3_ := Aside0.mk (Kd.N_lower (Kd.N_mono (ok' := fun k_ => some k_ ≠ (.slice Ao12 t472.length co12 : Value).ownBlock ∧ some k_ ≠ (.slice Ao14 t478.length co14 : Value).ownBlock ∧ k_ ≠ gb481 ∧ k_ ≠ gb482 ∧ k_ ≠ gb492) ho0 (fun k_ hk_ => ⟨Or.elim hk_ (fun hs_ => hs_.1) (fun hn_ => (Kd.fresh' (Kd.N_lt (kN HO_482003.out)) k_ hn_)), Or.elim hk_ (fun hs_ => hs_.2.1) (fun hn_ => (Kd.fresh' (Kd.N_lt (kN HO_483003.out)) k_ hn_)), Or.elim hk_ (fun hs_ => hs_.2.2.1) (fun hn_ => (Kd.freshB (rb BK481.out) k_ hn_)), Or.elim hk_ (fun hs_ => hs_.2.2.2.1) (fun hn_ => (Kd.freshB (rb BK482.out) k_ hn_)), Or.elim hk_ (fun hs_ => hs_.2.2.2.2) (fun hn_ => (Kd.freshB (rb BK492.out) k_ hn_))⟩)) (below_size bb))
          have n4_ := Aside0.mk (blk_below (rb BK481.out) hb)
          have n5_ := Aside0.mk (blk_below (rb BK482.out) hb)
          have n6_ := Aside0.mk (blk_below (rb BK492.out) hb)
          have n7_ := Aside0.mk (below_step bb hb)
          clear HO_482003
          clear HO_483003
          clear HO490
          clear BK481
          clear BK482
          clear BK492
          clear HB
          have HO_482003 := n0_
          have HO_483003 := n1_
          have HO490 := n2_
          have HO498 := n3_
          have BK481 := n4_
          have BK482 := n5_
          have BK492 := n6_
          have HB := n7_
          clear n0_ n1_ n2_ n3_ n4_ n5_ n6_ n7_
          (try clear hb)
          (try clear hb2)
          (try clear hk)
          (try clear hi)
          (try clear ho0)
          refine hK.out _ _ ⟨(blk_cell BK492.out 0).trans rfl, (blk_cell BK492.out 1).trans rfl, (blk_cell BK492.out 2).trans rfl, (blk_cell BK481.out 0).trans rfl, (blk_cell BK481.out 1).trans rfl, (blk_cell BK481.out 2).trans rfl, (blk_cell BK481.out 3).trans rfl⟩ (fun hHeld => ?_)
          clear hK K
          refine norm_ (a' := ?_) ?_ ?_
          rotate_left
          ·show Act.put _ (some 66) _ = _
           simp only [Act.put, List.setIfInBounds_toArray, List.set_cons_zero, List.set_cons_succ, i64_w, i32_w]
           rfl
          refine one_ (i := 20) (N := some 69) #[true, true, true, true, true, true, true, true, true, true, true, true, true, true, true, true, true, true, true, true, true, false, false, false] rfl rfl (one_of HT_.out (by kernel_rfl)) (by decide) (fun K hK => ?_)
          refine goes_ Try.func40 (by kernel_rfl) rfl #[.slice Ao12 t472.length co12] (by rfl) rfl rfl (by (try simp only [List.map_toArray, List.map_cons, List.map_nil]); first | done | rfl | (simp only [List.length_drop, List.length_take]; rfl)) ?_
          with_reducible refine (pack_All.calls (fun k_ => ((some k_ ≠ (.slice Ao14 t478.length co14 : Value).ownBlock ∧ (some k_ ≠ (.slice Ao35 t488.length co35 : Value).ownBlock ∧ (k_ ≠ gb481 ∧ (k_ ≠ gb482 ∧ k_ ≠ gb492)))) ∧ some k_ ≠ (v497 : Value).ownBlock)) _ _ t472 t499 t500 t501 t502 _ ?side1 A24.out).mono ?_
          (case side1 => exact Kd.N_V (HO_482003.out))
          rintro e w39 ⟨v503, rfl, ho0, hb⟩
          refine ⟨_, rfl, ?_⟩
          have n0_ := Aside0.mk (Kd.N_elder' (kN HO_482003.out) (by first | exact Kd.N_base ho0 | exact Kd.N_base (Kd.R_N ho0)) hb)
          have n1_ := Aside0.mk (Kd.N_elder' (kN HO_483003.out) (by first | exact Kd.N_base ho0 | exact Kd.N_base (Kd.R_N ho0)) hb)
          have n2_ := Aside0.mk (Kd.N_elder' (kN HO490.out) (by first | exact Kd.N_base ho0 | exact Kd.N_base (Kd.R_N ho0)) hb)
          have n3_ := Aside0.mk (Kd.N_elder' (kN HO498.out) (by first | exact Kd.N_base ho0 | exact Kd.N_base (Kd.R_N ho0)) hb)
          have n4_ := Aside0.mk (Kd.N_lower (Kd.N_mono (ok' := fun k_ => some k_ ≠ (.slice Ao14 t478.length co14 : Value).ownBlock ∧ some k_ ≠ (.slice Ao35 t488.length co35 : Value).ownBlock ∧ some k_ ≠ (v497 : Value).ownBlock ∧ k_ ≠ gb481 ∧ k_ ≠ gb482 ∧ k_ ≠ gb492) ho0 (fun k_ hk_ => ⟨Or.elim hk_ (fun hs_ => hs_.1.1) (fun hn_ => (Kd.fresh' (Kd.N_lt (kN HO_483003.out)) k_ hn_)), Or.elim hk_ (fun hs_ => hs_.1.2.1) (fun hn_ => (Kd.fresh' (Kd.N_lt (kN HO490.out)) k_ hn_)), Or.elim hk_ (fun hs_ => hs_.2) (fun hn_ => (Kd.fresh' (Kd.N_lt (kN HO498.out)) k_ hn_)), Or.elim hk_ (fun hs_ => hs_.1.2.2.1) (fun hn_ => (Kd.freshB (rb BK481.out) k_ hn_)), Or.elim hk_ (fun hs_ => hs_.1.2.2.2.1) (fun hn_ => (Kd.freshB (rb BK482.out) k_ hn_)), Or.elim hk_ (fun hs_ => hs_.1.2.2.2.2) (fun hn_ => (Kd.freshB (rb BK492.out) k_ hn_))⟩)) (below_size bb))
          have n5_ := Aside0.mk (blk_below (rb BK481.out) hb)
          have n6_ := Aside0.mk (blk_below (rb BK482.out) hb)
          have n7_ := Aside0.mk (blk_below (rb BK492.out) hb)
          have n8_ := Aside0.mk (below_step bb hb)
          clear HO_482003
          clear HO_483003
          clear HO490
          clear HO498
          clear BK481
          clear BK482
          clear BK492
          clear HB
          have HO_482003 := n0_
          have HO_483003 := n1_
          have HO490 := n2_
          have HO498 := n3_
          have HO504 := n4_
          have BK481 := n5_
          have BK482 := n6_
          have BK492 := n7_
          have HB := n8_
          clear n0_ n1_ n2_ n3_ n4_ n5_ n6_ n7_ n8_
          (try clear hb)
          (try clear hb2)
          (try clear hk)
          (try clear hi)
          (try clear ho0)
          obtain ⟨Ao40, co40, eo40⟩ := Kd.N_slice HO498.out
          (first | subst eo40 | (injection eo40 with f1_ f2_ f3_; have f4_ := f1_.symm; have f5_ := f3_.symm; clear f1_ f2_ f3_; subst f4_; subst f5_))
          obtain ⟨Ao41, co41, eo41⟩ := Kd.N_slice HO504.out
          (first | subst eo41 | (injection eo41 with f1_ f2_ f3_; have f4_ := f1_.symm; have f5_ := f3_.symm; clear f1_ f2_ f3_; subst f4_; subst f5_))
          refine hK.out _ _ ⟨(blk_cell BK492.out 0).trans rfl, (blk_cell BK492.out 1).trans rfl, (blk_cell BK492.out 2).trans rfl, (blk_cell BK481.out 0).trans rfl, (blk_cell BK481.out 1).trans rfl, (blk_cell BK481.out 2).trans rfl, (blk_cell BK481.out 3).trans rfl⟩ (fun hHeld => ?_)
          clear hK K
          refine norm_ (a' := ?_) ?_ ?_
          rotate_left
          ·show Act.put _ (some 69) _ = _
           simp only [Act.put, List.setIfInBounds_toArray, List.set_cons_zero, List.set_cons_succ, i64_w, i32_w]
           rfl
          refine one_ (i := 21) (N := some 70) #[true, true, true, true, true, true, true, true, true, true, true, true, true, true, true, true, true, true, true, true, true, true, false, false] rfl rfl (one_of HT_.out (by kernel_rfl)) (by decide) (fun K hK => ?_)
          refine goes_ Try.func27 (by kernel_rfl) rfl #[.agg #[.int .i64 t493, .int .i64 t494, .string t495, .slice Ao40 t496.length co40], .agg #[.int .i64 t499, .int .i64 t500, .string t501, .slice Ao41 t502.length co41]] (by rfl) rfl rfl (by (try simp only [List.map_toArray, List.map_cons, List.map_nil]); first | done | rfl | (simp only [List.length_drop, List.length_take]; rfl)) ?_
          with_reducible refine (pack_Equal.calls t493 t494 t495 _ _ t496 t499 t500 t501 _ _ t502 true _ ?side1 ?side2 ?side3 ?side4 A25.out).mono ?_
          (case side1 => repeat (first | exact (Kd.N_reads' HO498.out).2.2 | (with_reducible refine Kd.C_alloc ?_ _) | (with_reducible refine Kd.C_drewN ?_ _) | (with_reducible refine Kd.C_drew ?_)))
          (case side2 => exact (Kd.N_reads' HO498.out).2.1)
          (case side3 => repeat (first | exact (Kd.N_reads' HO504.out).2.2 | (with_reducible refine Kd.C_alloc ?_ _) | (with_reducible refine Kd.C_drewN ?_ _) | (with_reducible refine Kd.C_drew ?_)))
          (case side4 => exact (Kd.N_reads' HO504.out).2.1)
          rintro e w42 ⟨rfl, hb⟩
          refine ⟨_, rfl, ?_⟩
          have n0_ := Aside0.mk (Kd.N_below (kN HO_482003.out) hb)
          have n1_ := Aside0.mk (Kd.N_below (kN HO_483003.out) hb)
          have n2_ := Aside0.mk (Kd.N_below (kN HO490.out) hb)
          have n3_ := Aside0.mk (Kd.N_below (kN HO498.out) hb)
          have n4_ := Aside0.mk (Kd.N_below (kN HO504.out) hb)
          have n5_ := Aside0.mk (blk_below (rb BK481.out) hb)
          have n6_ := Aside0.mk (blk_below (rb BK482.out) hb)
          have n7_ := Aside0.mk (blk_below (rb BK492.out) hb)
          have n8_ := Aside0.mk (below_step bb hb)
          clear HO_482003
          clear HO_483003
          clear HO490
          clear HO498
          clear HO504
          clear BK481
          clear BK482
          clear BK492
          clear HB
          have HO_482003 := n0_
          have HO_483003 := n1_
          have HO490 := n2_
          have HO498 := n3_
          have HO504 := n4_
          have BK481 := n5_
          have BK482 := n6_
          have BK492 := n7_
          have HB := n8_
          clear n0_ n1_ n2_ n3_ n4_ n5_ n6_ n7_ n8_
          (try clear hb)
          (try clear hb2)
          (try clear hk)
          (try clear hi)
          refine hK.out _ _ ⟨(blk_cell BK492.out 0).trans rfl, (blk_cell BK492.out 1).trans rfl, (blk_cell BK492.out 2).trans rfl, (blk_cell BK481.out 0).trans rfl, (blk_cell BK481.out 1).trans rfl, (blk_cell BK481.out 2).trans rfl, (blk_cell BK481.out 3).trans rfl⟩ (fun hHeld => ?_)
          clear hK K
          refine norm_ (a' := ?_) ?_ ?_
          rotate_left
          ·show Act.put _ (some 70) _ = _
           simp only [Act.put, List.setIfInBounds_toArray, List.set_cons_zero, List.set_cons_succ, i64_w, i32_w]
           rfl
          refine pure_ (i := 22) (N := some 71) (v := ?_) (a' := ?_) #[true, true, true, true, true, true, true, true, true, true, true, true, true, true, true, true, true, true, true, true, true, true, true, false] rfl rfl (any_of HT_.out (by kernel_rfl)) (fun _ _ _ h => h) (Or.inl ⟨by rfl, ?_⟩) ?_ ?_
          rotate_left
          ·intro w'
           go_simp
           with_reducible rfl
          rotate_left
          ·simp only [Act.put, List.setIfInBounds_toArray, List.set_cons_zero, List.set_cons_succ, i64_w, i32_w]
           rfl
          refine pure_ (i := 23) (N := some 72) (v := ?_) (a' := ?_) #[true, true, true, true, true, true, true, true, true, true, true, true, true, true, true, true, true, true, true, true, true, true, true, true] rfl rfl (any_of HT_.out (by kernel_rfl)) (fun _ _ _ h => h) (Or.inl ⟨by rfl, ?_⟩) ?_ ?_
          rotate_left
          ·intro w'
           go_simp
           with_reducible rfl
          rotate_left
          ·simp only [Act.put, List.setIfInBounds_toArray, List.set_cons_zero, List.set_cons_succ, i64_w, i32_w]
           rfl
          refine done_ (done_of HT_.out (by kernel_rfl)) ?_
          try go_wp2
          go_roundg k1
          case measure => have := HK1.out; omega
          case rel => exact ⟨(wrap64 (x30_1 + 1)), (by first | rfl | (simp; done) | (simp [*]; done)), H', ⟨by have := HK1.out; omega⟩, ⟨kN (Kd.N_mono HO_482003.out (fun _ hk => ⟨hk.1.1.1, ⟨hk.1.1.2.2.1, hk.1.1.2.2.2.1⟩⟩))⟩, ⟨kN (Kd.N_mono HO_483003.out (fun _ hk => ⟨hk.1.1.1, ⟨hk.1.1.2.2.1, hk.1.1.2.2.2.1⟩⟩))⟩, ⟨by (with_reducible repeat (first | refine blk_drewN ?_ _ | refine blk_drew ?_ | refine blk_alloc ?_ _)); exact BK481.out⟩, ⟨by (with_reducible repeat (first | refine blk_drewN ?_ _ | refine blk_drew ?_ | refine blk_alloc ?_ _)); exact BK482.out⟩, ⟨bb⟩⟩
         ·replace c26 := Bool.eq_false_iff.mpr c26
          subst c26
          have H1 : (some false) = some r := by rw [if_neg (show ¬ (false = true) by decide)] at H; exact H
          clear H
          have H := H1
          clear H1
          exact absurd ((Option.some.inj H).trans hT_.out) (by decide)
        ·rw [if_neg c22] at H
         have c22b0 : (t487 == x30_1) = false := beq_eq_false_iff_ne.mpr c22
         have c22b1 : (t487 != x30_1) = true := bne_iff_ne.mpr c22
         exact absurd ((Option.some.inj H).trans hT_.out) (by decide)
       ·rw [if_neg c21] at H
        have c21b0 : (t486.toList == a1.toList) = false := beq_eq_false_iff_ne.mpr c21
        have c21b1 : (t486.toList != a1.toList) = true := bne_iff_ne.mpr c21
        exact absurd ((Option.some.inj H).trans hT_.out) (by decide)
      ·rw [if_neg c20] at H
       have c20b0 : (t491 == 0) = false := beq_eq_false_iff_ne.mpr c20
       have c20b1 : (t491 != 0) = true := bne_iff_ne.mpr c20
       exact absurd ((Option.some.inj H).trans hT_.out) (by decide)
     ·rw [if_neg c18] at H
      have c18b0 : (t485 == 0) = false := beq_eq_false_iff_ne.mpr c18
      have c18b1 : (t485 != 0) = true := bne_iff_ne.mpr c18
      have H' := Aside0.mk H
      clear H
      have hnb43 := NB481_482.out
      have hnc43 := NB482_481.out
      have hcz44_0 : wr.cell? ⟨gb481, 0, none⟩ = some (.int .i64 t469) := (blk_cell BK481.out 0).trans rfl
      have hcz44_1 : wr.cell? ⟨gb481, 1, none⟩ = some (.int .i64 t470) := (blk_cell BK481.out 1).trans rfl
      have hcz44_2 : wr.cell? ⟨gb481, 2, none⟩ = some (.string t471) := (blk_cell BK481.out 2).trans rfl
      have hcz44_3 : wr.cell? ⟨gb481, 3, none⟩ = some (.slice Ao12 t472.length co12) := (blk_cell BK481.out 3).trans rfl
      have hfz44_0 := blk_frozen BK481.out 0
      have hfz44_1 := blk_frozen BK481.out 1
      have hfz44_2 := blk_frozen BK481.out 2
      have hfz44_3 := blk_frozen BK481.out 3
      go_wp2_with (first | ((with_reducible refine gate_callee (f := 29) rfl ?_); refine goesL_ (some 39) rfl rfl Try.func29 (by kernel_rfl) rfl #[.agg #[.string a1, .int .i64 x30_1, .slice Ao12 t472.length co12]] rfl (by (try simp only [List.map_toArray, List.map_cons, List.map_nil]); first | done | rfl | (simp only [List.length_drop, List.length_take]; rfl)) ?_; (with_reducible refine (op_Put.calls k1 a1 x30_1 _ _ t472 t484 t485 _ ?side1 ?side2 A17.out).mono ?_); (case side1 => repeat (first | exact (Kd.N_reads' HO_482003.out).2.2 | (with_reducible refine Kd.C_alloc ?_ _) | (with_reducible refine Kd.C_drewN ?_ _) | (with_reducible refine Kd.C_drew ?_))); (case side2 => exact (Kd.N_reads' HO_482003.out).2.1); rintro e w45 ⟨rfl, hb⟩; refine ⟨_, rfl, ?_⟩; have n0_ := Aside0.mk (Kd.N_below (kN HO_482003.out) hb); have n1_ := Aside0.mk (Kd.N_below (kN HO_483003.out) hb); have n2_ := Aside0.mk (blk_below (rb BK481.out) hb); have n3_ := Aside0.mk (blk_below (rb BK482.out) hb); have n4_ := Aside0.mk (below_step bb hb); clear HO_482003; clear HO_483003; clear BK481; clear BK482; clear HB; have HO_482003 := n0_; have HO_483003 := n1_; have BK481 := n2_; have BK482 := n3_; have HB := n4_; clear n0_ n1_ n2_ n3_ n4_; (try clear hb); (try clear hb2); (try clear hk); (try clear hi)))
      go_roundg k1
      case measure => have := HK1.out; omega
      case rel => exact ⟨(wrap64 (x30_1 + 1)), (by first | rfl | (simp; done) | (simp [*]; done)), H', ⟨by have := HK1.out; omega⟩, ⟨kN HO_482003.out⟩, ⟨kN HO_483003.out⟩, ⟨by (with_reducible repeat (first | refine blk_drewN ?_ _ | refine blk_drew ?_ | refine blk_alloc ?_ _)); exact BK481.out⟩, ⟨by (with_reducible repeat (first | refine blk_drewN ?_ _ | refine blk_drew ?_ | refine blk_alloc ?_ _)); exact BK482.out⟩, ⟨bb⟩⟩
    ·rw [if_neg c16] at H
     have c16b0 : decide (x30_1 < 10) = false := decide_eq_false c16
     clear c16
     replace H := Option.bind_eq_some_iff.mp H
     obtain ⟨t507, A460, H⟩ := H
     replace H : (if t507.toList = ([] : List UInt8) then (precinctlaw18_OpBack.j1 k1 a0) else ((op_Told.f t507).bind fun bt508 => (if bt508.2.2.2.2.2 = 0 then (if bt508.1 = 24 then ((pack_Equal.f bt508.2.1 bt508.2.2.1 bt508.2.2.2.1 bt508.2.2.2.2.1 t469 t470 t471 t472).bind fun t517 => (if t517 = true then (precinctlaw18_OpBack.j1 k1 a0) else (some false))) else (some false)) else (some false)))) = some r := H
     have A46 := Aside0.mk A460
     clear A460
     have HC47 := Aside0.mk H
     clear H
     have hnb48 := NB481_482.out
     have hnc48 := NB482_481.out
     have hcz49_0 : wr.cell? ⟨gb481, 0, none⟩ = some (.int .i64 t469) := (blk_cell BK481.out 0).trans rfl
     have hcz49_1 : wr.cell? ⟨gb481, 1, none⟩ = some (.int .i64 t470) := (blk_cell BK481.out 1).trans rfl
     have hcz49_2 : wr.cell? ⟨gb481, 2, none⟩ = some (.string t471) := (blk_cell BK481.out 2).trans rfl
     have hcz49_3 : wr.cell? ⟨gb481, 3, none⟩ = some (.slice Ao12 t472.length co12) := (blk_cell BK481.out 3).trans rfl
     have hfz49_0 := blk_frozen BK481.out 0
     have hfz49_1 := blk_frozen BK481.out 1
     have hfz49_2 := blk_frozen BK481.out 2
     have hfz49_3 := blk_frozen BK481.out 3
     go_upto_if 79 with (first | ((with_reducible refine gate_dst (N := 13) rfl ?_); refine box_event ?hg (N := 13) ?hd (cs := #[.int .i64 0, .int .i64 0, .int .i64 0, .string (⟨#[]⟩ : ByteArray), .slice none 0 0]) (t := 82) ?hr ?_; (case hd => rfl); (case hg => rfl); (case hr => first | (go_simp; done) | (go_simp; rfl)); intro gb506 hg w50 hbox hb; have n0_ := Aside0.mk (Kd.N_below (Kd.N_elderB (kN HO_482003.out) gb506 (Nat.le_of_eq hg.symm)) hb); have n1_ := Aside0.mk (Kd.N_below (Kd.N_elderB (kN HO_483003.out) gb506 (Nat.le_of_eq hg.symm)) hb); have n2_ := Aside0.mk (blk_below (rb BK481.out) hb); have n3_ := Aside0.mk (blk_below (rb BK482.out) hb); have n4_ := Aside0.mk (below_step bb hb); have n5_ := Aside0.mk (hbox); have n6_ := Aside0.mk ((by rw [hg]; exact (below_size bb) : w.heap.size ≤ gb506)); have n7_ := Aside0.mk ((by rw [hg]; exact (below_size bb) : w.heap.size ≤ gb506)); have n8_ := Aside0.mk ((by rw [hg]; exact Nat.ne_of_lt (blk_lt (rb BK481.out)) : gb481 ≠ gb506)); have n9_ := Aside0.mk ((by rw [hg]; exact Nat.ne_of_gt (blk_lt (rb BK481.out)) : gb506 ≠ gb481)); have n10_ := Aside0.mk ((by rw [hg]; exact Nat.ne_of_lt (blk_lt (rb BK482.out)) : gb482 ≠ gb506)); have n11_ := Aside0.mk ((by rw [hg]; exact Nat.ne_of_gt (blk_lt (rb BK482.out)) : gb506 ≠ gb482)); clear HO_482003; clear HO_483003; clear BK481; clear BK482; clear HB; have HO_482003 := n0_; have HO_483003 := n1_; have BK481 := n2_; have BK482 := n3_; have HB := n4_; have BK506 := n5_; have GW506 := n6_; have GE506 := n7_; have NB481_506 := n8_; have NB506_481 := n9_; have NB482_506 := n10_; have NB506_482 := n11_; clear n0_ n1_ n2_ n3_ n4_ n5_ n6_ n7_ n8_ n9_ n10_ n11_; clear hb hbox hg; have hnb51 := NB506_481.out; have hnc51 := NB481_506.out; have hnb52 := NB506_482.out; have hnc52 := NB482_506.out; have hcz53_0 : w50.cell? ⟨gb506, 0, none⟩ = some (.int .i64 0) := (blk_cell BK506.out 0).trans rfl; have hcz53_1 : w50.cell? ⟨gb506, 1, none⟩ = some (.int .i64 0) := (blk_cell BK506.out 1).trans rfl; have hcz53_2 : w50.cell? ⟨gb506, 2, none⟩ = some (.int .i64 0) := (blk_cell BK506.out 2).trans rfl; have hcz53_3 : w50.cell? ⟨gb506, 3, none⟩ = some (.string (⟨#[]⟩ : ByteArray)) := (blk_cell BK506.out 3).trans rfl; have hcz53_4 : w50.cell? ⟨gb506, 4, none⟩ = some (.slice none 0 0) := (blk_cell BK506.out 4).trans rfl; have hfz53_0 := blk_frozen BK506.out 0; have hfz53_1 := blk_frozen BK506.out 1; have hfz53_2 := blk_frozen BK506.out 2; have hfz53_3 := blk_frozen BK506.out 3; have hfz53_4 := blk_frozen BK506.out 4) | ((with_reducible refine gate_store (t := 82) (p := 13) rfl ?_); refine store_event (t := 82) (p := 13) (v := ?vo_w54) (w1 := (((((w50.setCell ⟨gb506, 0, none⟩ (.int .i64 24)).setCell ⟨gb506, 1, none⟩ (.int .i64 t469)).setCell ⟨gb506, 2, none⟩ (.int .i64 t470)).setCell ⟨gb506, 3, none⟩ (.string t471)).setCell ⟨gb506, 4, none⟩ (.slice Ao12 t472.length co12))) ?hg ?ho ?hn ?hr ?_; (case ho => rfl); (case hg => rfl); (case hn => rfl); (case hr => first | (go_simp; done) | (go_simp; rfl)); intro w54 hw; have n0_ : Aside0 (Kd.N k54 54 w54 w.heap.size (fun k_ => some k_ ≠ (.slice Ao14 t478.length co14 : Value).ownBlock ∧ k_ ≠ gb481 ∧ k_ ≠ gb482 ∧ k_ ≠ gb506) (.slice Ao12 t472.length co12) t472) := ⟨(by rw [hw]; exact (kN (Kd.N_mono (Kd.N_far (p := ⟨gb506, 4, none⟩) (Kd.N_far (p := ⟨gb506, 3, none⟩) (Kd.N_far (p := ⟨gb506, 2, none⟩) (Kd.N_far (p := ⟨gb506, 1, none⟩) (Kd.N_far (p := ⟨gb506, 0, none⟩) (Kd.N_mono HO_482003.out (fun k_ hk => (⟨hk, hk.2⟩ : _ ∧ k_ ≠ gb506))) (fun _ hk => hk.2) (.int .i64 24)) (fun _ hk => hk.2) (.int .i64 t469)) (fun _ hk => hk.2) (.int .i64 t470)) (fun _ hk => hk.2) (.string t471)) (fun _ hk => hk.2) (.slice Ao12 t472.length co12)) (fun _ hk => ⟨hk.1.1.1, ⟨hk.1.1.2.1, ⟨hk.1.1.2.2, hk.1.2⟩⟩⟩))))⟩; have n1_ : Aside0 (Kd.N k57 57 w54 w.heap.size (fun k_ => some k_ ≠ (.slice Ao12 t472.length co12 : Value).ownBlock ∧ k_ ≠ gb481 ∧ k_ ≠ gb482 ∧ k_ ≠ gb506) (.slice Ao14 t478.length co14) t478) := ⟨(by rw [hw]; exact (kN (Kd.N_mono (Kd.N_far (p := ⟨gb506, 4, none⟩) (Kd.N_far (p := ⟨gb506, 3, none⟩) (Kd.N_far (p := ⟨gb506, 2, none⟩) (Kd.N_far (p := ⟨gb506, 1, none⟩) (Kd.N_far (p := ⟨gb506, 0, none⟩) (Kd.N_mono HO_483003.out (fun k_ hk => (⟨hk, hk.2⟩ : _ ∧ k_ ≠ gb506))) (fun _ hk => hk.2) (.int .i64 24)) (fun _ hk => hk.2) (.int .i64 t469)) (fun _ hk => hk.2) (.int .i64 t470)) (fun _ hk => hk.2) (.string t471)) (fun _ hk => hk.2) (.slice Ao12 t472.length co12)) (fun _ hk => ⟨hk.1.1.1, ⟨hk.1.1.2.1, ⟨hk.1.1.2.2, hk.1.2⟩⟩⟩))))⟩; have n2_ : Aside0 (w54.heap[gb481]? = some (.cells #[.int .i64 t469, .int .i64 t470, .string t471, .slice Ao12 t472.length co12] 54 (0, 0))) := ⟨(by rw [hw]; exact (rb (blk_far (rb (blk_far (rb (blk_far (rb (blk_far (rb (blk_far (rb BK481.out) NB481_506.out _)) NB481_506.out _)) NB481_506.out _)) NB481_506.out _)) NB481_506.out _)))⟩; have n3_ : Aside0 (w54.heap[gb482]? = some (.cells #[.int .i64 t475, .int .i64 t476, .string t477, .slice Ao14 t478.length co14] 57 (0, 0))) := ⟨(by rw [hw]; exact (rb (blk_far (rb (blk_far (rb (blk_far (rb (blk_far (rb (blk_far (rb BK482.out) NB482_506.out _)) NB482_506.out _)) NB482_506.out _)) NB482_506.out _)) NB482_506.out _)))⟩; have n4_ : Aside0 (w54.heap[gb506]? = some (.cells #[.int .i64 24, .int .i64 t469, .int .i64 t470, .string t471, .slice Ao12 t472.length co12] 82 (0, 0))) := ⟨(by rw [hw]; exact (rb (blk_put (cs := #[.int .i64 24, .int .i64 t469, .int .i64 t470, .string t471, .slice none 0 0]) (rb (blk_put (cs := #[.int .i64 24, .int .i64 t469, .int .i64 t470, .string (⟨#[]⟩ : ByteArray), .slice none 0 0]) (rb (blk_put (cs := #[.int .i64 24, .int .i64 t469, .int .i64 0, .string (⟨#[]⟩ : ByteArray), .slice none 0 0]) (rb (blk_put (cs := #[.int .i64 24, .int .i64 0, .int .i64 0, .string (⟨#[]⟩ : ByteArray), .slice none 0 0]) (rb (blk_put (cs := #[.int .i64 0, .int .i64 0, .int .i64 0, .string (⟨#[]⟩ : ByteArray), .slice none 0 0]) (rb BK506.out) 0 _ rfl)) 1 _ rfl)) 2 _ rfl)) 3 _ rfl)) 4 _ rfl)))⟩; have n5_ : Aside0 (Below w.heap.size w w54) := ⟨(by rw [hw]; exact bb)⟩; clear hw; clear HO_482003; clear HO_483003; clear BK481; clear BK482; clear BK506; clear HB; have HO_482003 := n0_; have HO_483003 := n1_; have BK481 := n2_; have BK482 := n3_; have BK506 := n4_; have HB := n5_; clear n0_ n1_ n2_ n3_ n4_ n5_; have hcz55_0 : w54.cell? ⟨gb506, 0, none⟩ = some (.int .i64 24) := (blk_cell BK506.out 0).trans rfl; have hcz55_1 : w54.cell? ⟨gb506, 1, none⟩ = some (.int .i64 t469) := (blk_cell BK506.out 1).trans rfl; have hcz55_2 : w54.cell? ⟨gb506, 2, none⟩ = some (.int .i64 t470) := (blk_cell BK506.out 2).trans rfl; have hcz55_3 : w54.cell? ⟨gb506, 3, none⟩ = some (.string t471) := (blk_cell BK506.out 3).trans rfl; have hcz55_4 : w54.cell? ⟨gb506, 4, none⟩ = some (.slice Ao12 t472.length co12) := (blk_cell BK506.out 4).trans rfl; have hfz55_0 := blk_frozen BK506.out 0; have hfz55_1 := blk_frozen BK506.out 1; have hfz55_2 := blk_frozen BK506.out 2; have hfz55_3 := blk_frozen BK506.out 3; have hfz55_4 := blk_frozen BK506.out 4) | ((with_reducible refine gate_callee (f := 32) rfl ?_); refine goesL_ (some 77) rfl rfl Try.func32 (by kernel_rfl) rfl #[.agg #[.int .i64 24, .int .i64 t469, .int .i64 t470, .string t471, .slice Ao12 t472.length co12]] rfl (by (try simp only [List.map_toArray, List.map_cons, List.map_nil]); first | done | rfl | (simp only [List.length_drop, List.length_take]; rfl)) ?_; (with_reducible refine (op_Answer_Bytes.calls k1 24 t469 t470 t471 (fun k_ => (some k_ ≠ (.slice Ao14 t478.length co14 : Value).ownBlock ∧ (k_ ≠ gb481 ∧ (k_ ≠ gb482 ∧ k_ ≠ gb506)))) _ _ t472 t507 _ ?side1 A46.out).mono ?_); (case side1 => exact Kd.N_V (HO_482003.out)); rintro e w56 ⟨rfl, hb⟩; refine ⟨_, rfl, ?_⟩; have n0_ := Aside0.mk (Kd.N_below (kN HO_482003.out) hb); have n1_ := Aside0.mk (Kd.N_below (kN HO_483003.out) hb); have n2_ := Aside0.mk (blk_below (rb BK481.out) hb); have n3_ := Aside0.mk (blk_below (rb BK482.out) hb); have n4_ := Aside0.mk (blk_below (rb BK506.out) hb); have n5_ := Aside0.mk (below_step bb hb); clear HO_482003; clear HO_483003; clear BK481; clear BK482; clear BK506; clear HB; have HO_482003 := n0_; have HO_483003 := n1_; have BK481 := n2_; have BK482 := n3_; have BK506 := n4_; have HB := n5_; clear n0_ n1_ n2_ n3_ n4_ n5_; (try clear hb); (try clear hb2); (try clear hk); (try clear hi)))
     (try simp only [Act.put, List.setIfInBounds_toArray, List.set_cons_zero, List.set_cons_succ])
     go_cut [] (fun wc => ∃ (kq : Nat), Aside0 (precinctlaw18_OpBack.j1 kq a0 = some r) ∧ Aside0 (kq ≤ k1) ∧ Aside0 (Kd.N k54 54 wc w.heap.size (fun k_ => some k_ ≠ ((.slice Ao14 t478.length co14) : Value).ownBlock ∧ k_ ≠ gb481 ∧ k_ ≠ gb482 ∧ k_ ≠ gb506) (.slice Ao12 t472.length co12) t472) ∧ Aside0 (Kd.N k57 57 wc w.heap.size (fun k_ => some k_ ≠ ((.slice Ao12 t472.length co12) : Value).ownBlock ∧ some k_ ≠ ((.slice Ao12 t472.length co12) : Value).ownBlock ∧ k_ ≠ gb481 ∧ k_ ≠ gb482 ∧ k_ ≠ gb506) (.slice Ao14 t478.length co14) t478) ∧ Aside0 (Kd.N k54 54 wc w.heap.size (fun k_ => some k_ ≠ ((.slice Ao14 t478.length co14) : Value).ownBlock ∧ k_ ≠ gb481 ∧ k_ ≠ gb482 ∧ k_ ≠ gb506) (.slice Ao12 t472.length co12) t472) ∧ Aside0 (wc.heap[gb481]? = some (.cells #[.int .i64 t469, .int .i64 t470, .string t471, (.slice Ao12 t472.length co12)] 54 (0, 0))) ∧ Aside0 (wc.heap[gb482]? = some (.cells #[.int .i64 t475, .int .i64 t476, .string t477, (.slice Ao14 t478.length co14)] 57 (0, 0))) ∧ Aside0 (wc.heap[gb506]? = some (.cells #[.int .i64 24, .int .i64 t469, .int .i64 t470, .string t471, (.slice Ao12 t472.length co12)] 82 (0, 0))) ∧ Aside0 (Below w.heap.size w wc))
     case first =>
      have H := HC47.out
      clear HC47
      by_cases c57 : t507.toList = ([] : List UInt8)
      ·rw [if_pos c57] at H
       have c57b0 : (t507.toList == ([] : List UInt8)) = true := beq_iff_eq.mpr c57
       have c57b9 : t507.toList.isEmpty = true := List.isEmpty_iff.mpr c57
       have c57b1 : (t507.toList != ([] : List UInt8)) = false := bne_eq_false_iff_eq.mpr c57
       clear c57
       (first | rw [c57b0] | (simp only [i64_w, i32_w]; rw [c57b0]) | skip)
       (try (rw [c57b9]; simp only [Bool.not_true, Bool.not_false]))
       have H' := Aside0.mk H
       clear H
       go_wp2
       go_meet
       case rel => exact ⟨_, H', ⟨by have := HK1.out; first | omega | exact Nat.le_refl _⟩, ⟨kN HO_482003.out⟩, ⟨kN (Kd.N_mono HO_483003.out (fun _ hk => ⟨hk.1, ⟨hk.1, ⟨hk.2.1, ⟨hk.2.2.1, hk.2.2.2⟩⟩⟩⟩))⟩, ⟨kN HO_482003.out⟩, ⟨by (with_reducible repeat (first | refine blk_drewN ?_ _ | refine blk_drew ?_ | refine blk_alloc ?_ _)); exact BK481.out⟩, ⟨by (with_reducible repeat (first | refine blk_drewN ?_ _ | refine blk_drew ?_ | refine blk_alloc ?_ _)); exact BK482.out⟩, ⟨by (with_reducible repeat (first | refine blk_drewN ?_ _ | refine blk_drew ?_ | refine blk_alloc ?_ _)); exact BK506.out⟩, ⟨bb⟩⟩
      ·rw [if_neg c57] at H
       have c57b0 : (t507.toList == ([] : List UInt8)) = false := beq_eq_false_iff_ne.mpr c57
       have c57b9 : t507.toList.isEmpty = false := Bool.eq_false_iff.mpr (fun h_ => c57 (List.isEmpty_iff.mp h_))
       have c57b1 : (t507.toList != ([] : List UInt8)) = true := bne_iff_ne.mpr c57
       (first | rw [c57b0] | (simp only [i64_w, i32_w]; rw [c57b0]) | skip)
       (try (rw [c57b9]; simp only [Bool.not_true, Bool.not_false]))
       replace H := Option.bind_eq_some_iff.mp H
       obtain ⟨⟨t508, t509, t510, t511, t512, t515⟩, A580, H⟩ := H
       replace H : (if t515 = 0 then (if t508 = 24 then ((pack_Equal.f t509 t510 t511 t512 t469 t470 t471 t472).bind fun t517 => (if t517 = true then (precinctlaw18_OpBack.j1 k1 a0) else (some false))) else (some false)) else (some false)) = some r := H
       have A58 := Aside0.mk A580
       clear A580
       by_cases c59 : t515 = 0
       ·rw [if_pos c59] at H
        have c59b0 : (t515 == 0) = true := beq_iff_eq.mpr c59
        have c59b1 : (t515 != 0) = false := bne_eq_false_iff_eq.mpr c59
        clear c59
        by_cases c60 : t508 = 24
        ·rw [if_pos c60] at H
         have c60b0 : (t508 == 24) = true := beq_iff_eq.mpr c60
         have c60b1 : (t508 != 24) = false := bne_eq_false_iff_eq.mpr c60
         clear c60
         replace H := Option.bind_eq_some_iff.mp H
         obtain ⟨t517, A610, H⟩ := H
         replace H : (if t517 = true then (precinctlaw18_OpBack.j1 k1 a0) else (some false)) = some r := H
         have A61 := Aside0.mk A610
         clear A610
         by_cases c62 : t517 = true
         ·subst c62
          have H1 : (precinctlaw18_OpBack.j1 k1 a0) = some r := by rw [if_pos rfl] at H; exact H
          clear H
          have H := H1
          clear H1
          have H' := Aside0.mk H
          clear H
          go_wp2_with (first | ((with_reducible refine gate_callee (f := 36) rfl ?_); refine goesL_ (some 82) rfl rfl Try.func36 (by kernel_rfl) rfl #[.string t507] rfl (by (try simp only [List.map_toArray, List.map_cons, List.map_nil]); first | done | rfl | (simp only [List.length_drop, List.length_take]; rfl)) ?_; (with_reducible refine (op_Told.calls t507 t508 t509 t510 t511 t512 t515 _ A58.out).mono ?_); rintro e w63 ⟨v513, rfl, ho0, hb⟩; refine ⟨_, rfl, ?_⟩; have n0_ := Aside0.mk (Kd.N_elder' (kN HO_482003.out) (by first | exact Kd.N_base ho0 | exact Kd.N_base (Kd.R_N ho0)) hb); have n1_ := Aside0.mk (Kd.N_elder' (kN HO_483003.out) (by first | exact Kd.N_base ho0 | exact Kd.N_base (Kd.R_N ho0)) hb); have n2_ := Aside0.mk (Kd.N_lower (Kd.N_mono (ok' := fun k_ => some k_ ≠ (.slice Ao12 t472.length co12 : Value).ownBlock ∧ some k_ ≠ (.slice Ao14 t478.length co14 : Value).ownBlock ∧ k_ ≠ gb481 ∧ k_ ≠ gb482 ∧ k_ ≠ gb506) (Kd.R_N (Kd.R_bound ho0)) (fun k_ hk_ => ⟨(Kd.fresh' (Kd.N_lt (kN HO_482003.out)) k_ hk_.2.1), (Kd.fresh' (Kd.N_lt (kN HO_483003.out)) k_ hk_.2.1), (Kd.freshB (rb BK481.out) k_ hk_.2.1), (Kd.freshB (rb BK482.out) k_ hk_.2.1), (Kd.freshB (rb BK506.out) k_ hk_.2.1)⟩)) (below_size bb)); have n3_ := Aside0.mk (blk_below (rb BK481.out) hb); have n4_ := Aside0.mk (blk_below (rb BK482.out) hb); have n5_ := Aside0.mk (blk_below (rb BK506.out) hb); have n6_ := Aside0.mk (below_step bb hb); clear HO_482003; clear HO_483003; clear BK481; clear BK482; clear BK506; clear HB; have HO_482003 := n0_; have HO_483003 := n1_; have HO514 := n2_; have BK481 := n3_; have BK482 := n4_; have BK506 := n5_; have HB := n6_; clear n0_ n1_ n2_ n3_ n4_ n5_ n6_; (try clear hb); (try clear hb2); (try clear hk); (try clear hi); (try clear ho0)) | ((with_reducible refine gate_dst (N := 15) rfl ?_); refine box_event ?hg (N := 15) ?hd (cs := #[.int .i64 0, .int .i64 0, .int .i64 0, .string (⟨#[]⟩ : ByteArray), .slice none 0 0]) (t := 82) ?hr ?_; (case hd => rfl); (case hg => rfl); (case hr => first | (go_simp; done) | (go_simp; rfl)); intro gb516 hg w64 hbox hb; have n0_ := Aside0.mk (Kd.N_below (Kd.N_elderB (kN HO_482003.out) gb516 (Nat.le_of_eq hg.symm)) hb); have n1_ := Aside0.mk (Kd.N_below (Kd.N_elderB (kN HO_483003.out) gb516 (Nat.le_of_eq hg.symm)) hb); have n2_ := Aside0.mk (Kd.N_below (Kd.N_elderB (kN HO514.out) gb516 (Nat.le_of_eq hg.symm)) hb); have n3_ := Aside0.mk (blk_below (rb BK481.out) hb); have n4_ := Aside0.mk (blk_below (rb BK482.out) hb); have n5_ := Aside0.mk (blk_below (rb BK506.out) hb); have n6_ := Aside0.mk (below_step bb hb); have n7_ := Aside0.mk (hbox); have n8_ := Aside0.mk ((by rw [hg]; exact (below_size bb) : w.heap.size ≤ gb516)); have n9_ := Aside0.mk ((by rw [hg]; exact (below_size bb) : w.heap.size ≤ gb516)); have n10_ := Aside0.mk ((by rw [hg]; exact Nat.ne_of_lt (blk_lt (rb BK481.out)) : gb481 ≠ gb516)); have n11_ := Aside0.mk ((by rw [hg]; exact Nat.ne_of_gt (blk_lt (rb BK481.out)) : gb516 ≠ gb481)); have n12_ := Aside0.mk ((by rw [hg]; exact Nat.ne_of_lt (blk_lt (rb BK482.out)) : gb482 ≠ gb516)); have n13_ := Aside0.mk ((by rw [hg]; exact Nat.ne_of_gt (blk_lt (rb BK482.out)) : gb516 ≠ gb482)); have n14_ := Aside0.mk ((by rw [hg]; exact Nat.ne_of_lt (blk_lt (rb BK506.out)) : gb506 ≠ gb516)); have n15_ := Aside0.mk ((by rw [hg]; exact Nat.ne_of_gt (blk_lt (rb BK506.out)) : gb516 ≠ gb506)); clear HO_482003; clear HO_483003; clear HO514; clear BK481; clear BK482; clear BK506; clear HB; have HO_482003 := n0_; have HO_483003 := n1_; have HO514 := n2_; have BK481 := n3_; have BK482 := n4_; have BK506 := n5_; have HB := n6_; have BK516 := n7_; have GW516 := n8_; have GE516 := n9_; have NB481_516 := n10_; have NB516_481 := n11_; have NB482_516 := n12_; have NB516_482 := n13_; have NB506_516 := n14_; have NB516_506 := n15_; clear n0_ n1_ n2_ n3_ n4_ n5_ n6_ n7_ n8_ n9_ n10_ n11_ n12_ n13_ n14_ n15_; clear hb hbox hg; have hnb65 := NB516_481.out; have hnc65 := NB481_516.out; have hnb66 := NB516_482.out; have hnc66 := NB482_516.out; have hnb67 := NB516_506.out; have hnc67 := NB506_516.out; have hcz68_0 : w64.cell? ⟨gb516, 0, none⟩ = some (.int .i64 0) := (blk_cell BK516.out 0).trans rfl; have hcz68_1 : w64.cell? ⟨gb516, 1, none⟩ = some (.int .i64 0) := (blk_cell BK516.out 1).trans rfl; have hcz68_2 : w64.cell? ⟨gb516, 2, none⟩ = some (.int .i64 0) := (blk_cell BK516.out 2).trans rfl; have hcz68_3 : w64.cell? ⟨gb516, 3, none⟩ = some (.string (⟨#[]⟩ : ByteArray)) := (blk_cell BK516.out 3).trans rfl; have hcz68_4 : w64.cell? ⟨gb516, 4, none⟩ = some (.slice none 0 0) := (blk_cell BK516.out 4).trans rfl; have hfz68_0 := blk_frozen BK516.out 0; have hfz68_1 := blk_frozen BK516.out 1; have hfz68_2 := blk_frozen BK516.out 2; have hfz68_3 := blk_frozen BK516.out 3; have hfz68_4 := blk_frozen BK516.out 4; obtain ⟨Ao69, co69, eo69⟩ := Kd.N_slice HO514.out; subst eo69; have hnb70 := NB506_481.out; have hnc70 := NB481_506.out; have hnb71 := NB506_482.out; have hnc71 := NB482_506.out; have hcz72_0 : w64.cell? ⟨gb506, 0, none⟩ = some (.int .i64 24) := (blk_cell BK506.out 0).trans rfl; have hcz72_1 : w64.cell? ⟨gb506, 1, none⟩ = some (.int .i64 t469) := (blk_cell BK506.out 1).trans rfl; have hcz72_2 : w64.cell? ⟨gb506, 2, none⟩ = some (.int .i64 t470) := (blk_cell BK506.out 2).trans rfl; have hcz72_3 : w64.cell? ⟨gb506, 3, none⟩ = some (.string t471) := (blk_cell BK506.out 3).trans rfl; have hcz72_4 : w64.cell? ⟨gb506, 4, none⟩ = some (.slice Ao12 t472.length co12) := (blk_cell BK506.out 4).trans rfl; have hfz72_0 := blk_frozen BK506.out 0; have hfz72_1 := blk_frozen BK506.out 1; have hfz72_2 := blk_frozen BK506.out 2; have hfz72_3 := blk_frozen BK506.out 3; have hfz72_4 := blk_frozen BK506.out 4) | (go_at_call 27; (with_reducible refine (pack_Equal.calls t509 t510 t511 _ _ t512 t469 t470 t471 _ _ t472 true _ ?side1 ?side2 ?side3 ?side4 A61.out).mono ?_); (case side1 => refine (Kd.N_reads' (e := 54) (base := w.heap.size) (ok := fun k_ => ((some k_ ≠ (.slice Ao12 t472.length co12 : Value).ownBlock ∧ (some k_ ≠ (.slice Ao14 t478.length co14 : Value).ownBlock ∧ (k_ ≠ gb481 ∧ (k_ ≠ gb482 ∧ k_ ≠ gb506)))) ∧ k_ ≠ gb516)) (n := t512.length) (c := co69) ?_).2.2; exact (kN ((Kd.N_mono (Kd.N_far (p := ⟨gb516, 4, none⟩) (Kd.N_far (p := ⟨gb516, 3, none⟩) (Kd.N_far (p := ⟨gb516, 2, none⟩) (Kd.N_far (p := ⟨gb516, 1, none⟩) (Kd.N_far (p := ⟨gb516, 0, none⟩) (Kd.N_mono HO514.out (fun k_ hk => (⟨hk, hk.2⟩ : _ ∧ k_ ≠ gb516))) (fun _ hk => hk.2) (.int .i64 t508)) (fun _ hk => hk.2) (.int .i64 t509)) (fun _ hk => hk.2) (.int .i64 t510)) (fun _ hk => hk.2) (.string t511)) (fun _ hk => hk.2) (.slice Ao69 t512.length co69)) (fun _ h_ => h_.1))))); (case side2 => exact (Kd.N_reads' HO514.out).2.1); (case side3 => refine (Kd.N_reads' (e := 54) (base := w.heap.size) (ok := fun k_ => (((some k_ ≠ (.slice Ao14 t478.length co14 : Value).ownBlock ∧ (k_ ≠ gb481 ∧ (k_ ≠ gb482 ∧ k_ ≠ gb506))) ∧ some k_ ≠ (.slice Ao69 t512.length co69 : Value).ownBlock) ∧ k_ ≠ gb516)) (n := t472.length) (c := co12) ?_).2.2; exact (kN ((Kd.N_mono (Kd.N_far (p := ⟨gb516, 4, none⟩) (Kd.N_far (p := ⟨gb516, 3, none⟩) (Kd.N_far (p := ⟨gb516, 2, none⟩) (Kd.N_far (p := ⟨gb516, 1, none⟩) (Kd.N_far (p := ⟨gb516, 0, none⟩) (Kd.N_mono HO_482003.out (fun k_ hk => (⟨hk, hk.2⟩ : _ ∧ k_ ≠ gb516))) (fun _ hk => hk.2) (.int .i64 t508)) (fun _ hk => hk.2) (.int .i64 t509)) (fun _ hk => hk.2) (.int .i64 t510)) (fun _ hk => hk.2) (.string t511)) (fun _ hk => hk.2) (.slice Ao69 t512.length co69)) (fun _ h_ => h_.1))))); (case side4 => exact (Kd.N_reads' HO_482003.out).2.1); rintro e w73 ⟨rfl, hb⟩; have n0_ := Aside0.mk (Kd.N_below (kN ((Kd.N_mono (Kd.N_far (p := ⟨gb516, 4, none⟩) (Kd.N_far (p := ⟨gb516, 3, none⟩) (Kd.N_far (p := ⟨gb516, 2, none⟩) (Kd.N_far (p := ⟨gb516, 1, none⟩) (Kd.N_far (p := ⟨gb516, 0, none⟩) (Kd.N_mono HO_482003.out (fun k_ hk => (⟨hk, hk.2⟩ : _ ∧ k_ ≠ gb516))) (fun _ hk => hk.2) (.int .i64 t508)) (fun _ hk => hk.2) (.int .i64 t509)) (fun _ hk => hk.2) (.int .i64 t510)) (fun _ hk => hk.2) (.string t511)) (fun _ hk => hk.2) (.slice Ao69 t512.length co69)) (fun _ h_ => h_.1)))) hb); have n1_ := Aside0.mk (Kd.N_below (kN ((Kd.N_mono (Kd.N_far (p := ⟨gb516, 4, none⟩) (Kd.N_far (p := ⟨gb516, 3, none⟩) (Kd.N_far (p := ⟨gb516, 2, none⟩) (Kd.N_far (p := ⟨gb516, 1, none⟩) (Kd.N_far (p := ⟨gb516, 0, none⟩) (Kd.N_mono HO_483003.out (fun k_ hk => (⟨hk, hk.2⟩ : _ ∧ k_ ≠ gb516))) (fun _ hk => hk.2) (.int .i64 t508)) (fun _ hk => hk.2) (.int .i64 t509)) (fun _ hk => hk.2) (.int .i64 t510)) (fun _ hk => hk.2) (.string t511)) (fun _ hk => hk.2) (.slice Ao69 t512.length co69)) (fun _ h_ => h_.1)))) hb); have n2_ := Aside0.mk (Kd.N_below (kN ((Kd.N_mono (Kd.N_far (p := ⟨gb516, 4, none⟩) (Kd.N_far (p := ⟨gb516, 3, none⟩) (Kd.N_far (p := ⟨gb516, 2, none⟩) (Kd.N_far (p := ⟨gb516, 1, none⟩) (Kd.N_far (p := ⟨gb516, 0, none⟩) (Kd.N_mono HO514.out (fun k_ hk => (⟨hk, hk.2⟩ : _ ∧ k_ ≠ gb516))) (fun _ hk => hk.2) (.int .i64 t508)) (fun _ hk => hk.2) (.int .i64 t509)) (fun _ hk => hk.2) (.int .i64 t510)) (fun _ hk => hk.2) (.string t511)) (fun _ hk => hk.2) (.slice Ao69 t512.length co69)) (fun _ h_ => h_.1)))) hb); have n3_ := Aside0.mk (blk_below (rb (blk_far (rb (blk_far (rb (blk_far (rb (blk_far (rb (blk_far (rb BK481.out) NB481_516.out _)) NB481_516.out _)) NB481_516.out _)) NB481_516.out _)) NB481_516.out _)) hb); have n4_ := Aside0.mk (blk_below (rb (blk_far (rb (blk_far (rb (blk_far (rb (blk_far (rb (blk_far (rb BK482.out) NB482_516.out _)) NB482_516.out _)) NB482_516.out _)) NB482_516.out _)) NB482_516.out _)) hb); have n5_ := Aside0.mk (blk_below (rb (blk_far (rb (blk_far (rb (blk_far (rb (blk_far (rb (blk_far (rb BK506.out) NB506_516.out _)) NB506_516.out _)) NB506_516.out _)) NB506_516.out _)) NB506_516.out _)) hb); have n6_ := Aside0.mk (blk_below (rb (blk_put (cs := #[.int .i64 t508, .int .i64 t509, .int .i64 t510, .string t511, .slice none 0 0]) (rb (blk_put (cs := #[.int .i64 t508, .int .i64 t509, .int .i64 t510, .string (⟨#[]⟩ : ByteArray), .slice none 0 0]) (rb (blk_put (cs := #[.int .i64 t508, .int .i64 t509, .int .i64 0, .string (⟨#[]⟩ : ByteArray), .slice none 0 0]) (rb (blk_put (cs := #[.int .i64 t508, .int .i64 0, .int .i64 0, .string (⟨#[]⟩ : ByteArray), .slice none 0 0]) (rb (blk_put (cs := #[.int .i64 0, .int .i64 0, .int .i64 0, .string (⟨#[]⟩ : ByteArray), .slice none 0 0]) (rb BK516.out) 0 _ rfl)) 1 _ rfl)) 2 _ rfl)) 3 _ rfl)) 4 _ rfl)) hb); have n7_ := Aside0.mk (below_step bb hb); clear HO_482003; clear HO_483003; clear HO514; clear BK481; clear BK482; clear BK506; clear BK516; clear HB; have HO_482003 := n0_; have HO_483003 := n1_; have HO514 := n2_; have BK481 := n3_; have BK482 := n4_; have BK506 := n5_; have BK516 := n6_; have HB := n7_; clear n0_ n1_ n2_ n3_ n4_ n5_ n6_ n7_; (try clear hb); (try clear hb2); (try clear hk); (try clear hi)))
          go_meet
          case rel => exact ⟨_, H', ⟨by have := HK1.out; first | omega | exact Nat.le_refl _⟩, ⟨kN (Kd.N_mono HO_482003.out (fun _ hk => ⟨hk.1.1.1, ⟨hk.1.1.2.1, ⟨hk.1.1.2.2.1, hk.1.1.2.2.2⟩⟩⟩))⟩, ⟨kN (Kd.N_mono HO_483003.out (fun _ hk => ⟨hk.1.1.1, ⟨hk.1.1.1, ⟨hk.1.1.2.1, ⟨hk.1.1.2.2.1, hk.1.1.2.2.2⟩⟩⟩⟩))⟩, ⟨kN (Kd.N_mono HO_482003.out (fun _ hk => ⟨hk.1.1.1, ⟨hk.1.1.2.1, ⟨hk.1.1.2.2.1, hk.1.1.2.2.2⟩⟩⟩))⟩, ⟨by (with_reducible repeat (first | refine blk_drewN ?_ _ | refine blk_drew ?_ | refine blk_alloc ?_ _)); exact BK481.out⟩, ⟨by (with_reducible repeat (first | refine blk_drewN ?_ _ | refine blk_drew ?_ | refine blk_alloc ?_ _)); exact BK482.out⟩, ⟨by (with_reducible repeat (first | refine blk_drewN ?_ _ | refine blk_drew ?_ | refine blk_alloc ?_ _)); exact BK506.out⟩, ⟨bb⟩⟩
         ·replace c62 := Bool.eq_false_iff.mpr c62
          subst c62
          have H1 : (some false) = some r := by rw [if_neg (show ¬ (false = true) by decide)] at H; exact H
          clear H
          have H := H1
          clear H1
          exact absurd ((Option.some.inj H).trans hT_.out) (by decide)
        ·rw [if_neg c60] at H
         have c60b0 : (t508 == 24) = false := beq_eq_false_iff_ne.mpr c60
         have c60b1 : (t508 != 24) = true := bne_iff_ne.mpr c60
         exact absurd ((Option.some.inj H).trans hT_.out) (by decide)
       ·rw [if_neg c59] at H
        have c59b0 : (t515 == 0) = false := beq_eq_false_iff_ne.mpr c59
        have c59b1 : (t515 != 0) = true := bne_iff_ne.mpr c59
        exact absurd ((Option.some.inj H).trans hT_.out) (by decide)
     case rest =>
      clear HC47
      try clear c1
      try clear c2
      try clear p2
      try clear c3
      try clear c4
      try clear c5
      try clear c6
      try clear p6
      try clear c7
      try clear c10
      try clear c11
      try clear c16
      try clear c16b0
      try clear c18
      try clear c18b0
      try clear c18b1
      try clear c20
      try clear c20b0
      try clear c20b1
      try clear c21
      try clear c21b0
      try clear c21b1
      try clear c22
      try clear c22b0
      try clear c22b1
      try clear c26
      try clear c27
      try clear c28
      try clear c29
      try clear c31
      try clear c32
      try clear c33
      try clear c34
      try clear c36
      try clear c40
      try clear c43
      try clear c48
      try clear c51
      try clear c52
      try clear c57
      try clear c57b0
      try clear c57b1
      try clear c59
      try clear c59b0
      try clear c59b1
      try clear c60
      try clear c60b0
      try clear c60b1
      try clear c62
      try clear p64
      try clear c65
      try clear c66
      try clear c67
      try clear c70
      try clear c71
      try clear hcz11_0
      try clear hcz11_1
      try clear hcz11_2
      try clear hcz11_3
      try clear hcz13_0
      try clear hcz13_1
      try clear hcz13_2
      try clear hcz13_3
      try clear hcz28_0
      try clear hcz28_1
      try clear hcz28_2
      try clear hcz28_3
      try clear hcz34_0
      try clear hcz34_1
      try clear hcz34_2
      try clear hcz44_0
      try clear hcz44_1
      try clear hcz44_2
      try clear hcz44_3
      try clear hcz49_0
      try clear hcz49_1
      try clear hcz49_2
      try clear hcz49_3
      try clear hcz53_0
      try clear hcz53_1
      try clear hcz53_2
      try clear hcz53_3
      try clear hcz53_4
      try clear hcz55_0
      try clear hcz55_1
      try clear hcz55_2
      try clear hcz55_3
      try clear hcz55_4
      try clear hcz68_0
      try clear hcz68_1
      try clear hcz68_2
      try clear hcz68_3
      try clear hcz68_4
      try clear hcz72_0
      try clear hcz72_1
      try clear hcz72_2
      try clear hcz72_3
      try clear hcz72_4
      try clear hfz11_0
      try clear hfz11_1
      try clear hfz11_2
      try clear hfz11_3
      try clear hfz13_0
      try clear hfz13_1
      try clear hfz13_2
      try clear hfz13_3
      try clear hfz28_0
      try clear hfz28_1
      try clear hfz28_2
      try clear hfz28_3
      try clear hfz34_0
      try clear hfz34_1
      try clear hfz34_2
      try clear hfz44_0
      try clear hfz44_1
      try clear hfz44_2
      try clear hfz44_3
      try clear hfz49_0
      try clear hfz49_1
      try clear hfz49_2
      try clear hfz49_3
      try clear hfz53_0
      try clear hfz53_1
      try clear hfz53_2
      try clear hfz53_3
      try clear hfz53_4
      try clear hfz55_0
      try clear hfz55_1
      try clear hfz55_2
      try clear hfz55_3
      try clear hfz55_4
      try clear hfz68_0
      try clear hfz68_1
      try clear hfz68_2
      try clear hfz68_3
      try clear hfz68_4
      try clear hfz72_0
      try clear hfz72_1
      try clear hfz72_2
      try clear hfz72_3
      try clear hfz72_4
      try clear p2
      obtain ⟨kq, HA, HJ46, HO_482003, HO_483003, HO_507004, BK481, BK482, BK506, HB⟩ := hcut
      cases kq with
      | zero => exact absurd HA.out (by simp [precinctlaw18_OpBack.j1])
      | succ kj46 =>
       have H := HA.out
       clear HA
       simp only [precinctlaw18_OpBack.j1] at H
       replace H := Option.bind_eq_some_iff.mp H
       obtain ⟨⟨t518, t519, t520, t523⟩, A740, H⟩ := H
       replace H : (if t523 = 0 then ((op_Put.f kj46 t518 t519 t520).bind fun bt525 => (if bt525.2 = 0 then (precinctlaw18_OpBack.j2 kj46 a0 (bt525.1.toList != a0.toList)) else (precinctlaw18_OpBack.j2 kj46 a0 true))) else ((op_Told.f a0).bind fun bt537 => (if bt537.2.2.2.2.2 = 0 then ((op_Answer_Bytes.f kj46 bt537.1 bt537.2.1 bt537.2.2.1 bt537.2.2.2.1 bt537.2.2.2.2.1).bind fun t546 => (some (t546.toList == a0.toList))) else (some true)))) = some r := H
       have A74 := Aside0.mk A740
       clear A740
       by_cases c75 : t523 = 0
       ·rw [if_pos c75] at H
        have c75b0 : (t523 == 0) = true := beq_iff_eq.mpr c75
        have c75b1 : (t523 != 0) = false := bne_eq_false_iff_eq.mpr c75
        clear c75
        replace H := Option.bind_eq_some_iff.mp H
        obtain ⟨⟨t525, t526⟩, A760, H⟩ := H
        replace H : (if t526 = 0 then (precinctlaw18_OpBack.j2 kj46 a0 (t525.toList != a0.toList)) else (precinctlaw18_OpBack.j2 kj46 a0 true)) = some r := H
        have A76 := Aside0.mk A760
        clear A760
        have HC77 := Aside0.mk H
        clear H
        go_upto_region 22 with (first | ((with_reducible refine gate_callee (f := 34) rfl ?_); refine goesL_ (some 104) rfl rfl Try.func34 (by kernel_rfl) rfl #[.string a0] rfl (by (try simp only [List.map_toArray, List.map_cons, List.map_nil]); first | done | rfl | (simp only [List.length_drop, List.length_take]; rfl)) ?_; (with_reducible refine (op_Get.calls kj46 a0 t518 t519 t520 t523 _ A74.out).mono ?_); rintro e w78 ⟨v521, rfl, ho0, hb⟩; refine ⟨_, rfl, ?_⟩; have n0_ := Aside0.mk (Kd.N_elder' (kN HO_482003.out) (by first | exact Kd.N_base ho0 | exact Kd.N_base (Kd.R_N ho0)) hb); have n1_ := Aside0.mk (Kd.N_elder' (kN HO_483003.out) (by first | exact Kd.N_base ho0 | exact Kd.N_base (Kd.R_N ho0)) hb); have n2_ := Aside0.mk (Kd.N_elder' (kN HO_507004.out) (by first | exact Kd.N_base ho0 | exact Kd.N_base (Kd.R_N ho0)) hb); have n3_ := Aside0.mk (Kd.N_lower (Kd.N_mono (ok' := fun k_ => some k_ ≠ (.slice Ao12 t472.length co12 : Value).ownBlock ∧ some k_ ≠ (.slice Ao14 t478.length co14 : Value).ownBlock ∧ some k_ ≠ (.slice Ao12 t472.length co12 : Value).ownBlock ∧ k_ ≠ gb481 ∧ k_ ≠ gb482 ∧ k_ ≠ gb506) (Kd.R_N (Kd.R_bound ho0)) (fun k_ hk_ => ⟨(Kd.fresh' (Kd.N_lt (kN HO_482003.out)) k_ hk_.2.1), (Kd.fresh' (Kd.N_lt (kN HO_483003.out)) k_ hk_.2.1), (Kd.fresh' (Kd.N_lt (kN HO_507004.out)) k_ hk_.2.1), (Kd.freshB (rb BK481.out) k_ hk_.2.1), (Kd.freshB (rb BK482.out) k_ hk_.2.1), (Kd.freshB (rb BK506.out) k_ hk_.2.1)⟩)) (below_size bb)); have n4_ := Aside0.mk (blk_below (rb BK481.out) hb); have n5_ := Aside0.mk (blk_below (rb BK482.out) hb); have n6_ := Aside0.mk (blk_below (rb BK506.out) hb); have n7_ := Aside0.mk (below_step bb hb); clear HO_482003; clear HO_483003; clear HO_507004; clear BK481; clear BK482; clear BK506; clear HB; have HO_482003 := n0_; have HO_483003 := n1_; have HO_507004 := n2_; have HO522 := n3_; have BK481 := n4_; have BK482 := n5_; have BK506 := n6_; have HB := n7_; clear n0_ n1_ n2_ n3_ n4_ n5_ n6_ n7_; (try clear hb); (try clear hb2); (try clear hk); (try clear hi); (try clear ho0)) | ((with_reducible refine gate_dst (N := 17) rfl ?_); refine box_event ?hg (N := 17) ?hd (cs := #[.string (⟨#[]⟩ : ByteArray), .int .i64 0, .slice none 0 0]) (t := 75) ?hr ?_; (case hd => rfl); (case hg => rfl); (case hr => first | (go_simp; done) | (go_simp; rfl)); intro gb524 hg w79 hbox hb; have n0_ := Aside0.mk (Kd.N_below (Kd.N_elderB (kN HO_482003.out) gb524 (Nat.le_of_eq hg.symm)) hb); have n1_ := Aside0.mk (Kd.N_below (Kd.N_elderB (kN HO_483003.out) gb524 (Nat.le_of_eq hg.symm)) hb); have n2_ := Aside0.mk (Kd.N_below (Kd.N_elderB (kN HO_507004.out) gb524 (Nat.le_of_eq hg.symm)) hb); have n3_ := Aside0.mk (Kd.N_below (Kd.N_elderB (kN HO522.out) gb524 (Nat.le_of_eq hg.symm)) hb); have n4_ := Aside0.mk (blk_below (rb BK481.out) hb); have n5_ := Aside0.mk (blk_below (rb BK482.out) hb); have n6_ := Aside0.mk (blk_below (rb BK506.out) hb); have n7_ := Aside0.mk (below_step bb hb); have n8_ := Aside0.mk (hbox); have n9_ := Aside0.mk ((by rw [hg]; exact (below_size bb) : w.heap.size ≤ gb524)); have n10_ := Aside0.mk ((by rw [hg]; exact (below_size bb) : w.heap.size ≤ gb524)); have n11_ := Aside0.mk ((by rw [hg]; exact Nat.ne_of_lt (blk_lt (rb BK481.out)) : gb481 ≠ gb524)); have n12_ := Aside0.mk ((by rw [hg]; exact Nat.ne_of_gt (blk_lt (rb BK481.out)) : gb524 ≠ gb481)); have n13_ := Aside0.mk ((by rw [hg]; exact Nat.ne_of_lt (blk_lt (rb BK482.out)) : gb482 ≠ gb524)); have n14_ := Aside0.mk ((by rw [hg]; exact Nat.ne_of_gt (blk_lt (rb BK482.out)) : gb524 ≠ gb482)); have n15_ := Aside0.mk ((by rw [hg]; exact Nat.ne_of_lt (blk_lt (rb BK506.out)) : gb506 ≠ gb524)); have n16_ := Aside0.mk ((by rw [hg]; exact Nat.ne_of_gt (blk_lt (rb BK506.out)) : gb524 ≠ gb506)); clear HO_482003; clear HO_483003; clear HO_507004; clear HO522; clear BK481; clear BK482; clear BK506; clear HB; have HO_482003 := n0_; have HO_483003 := n1_; have HO_507004 := n2_; have HO522 := n3_; have BK481 := n4_; have BK482 := n5_; have BK506 := n6_; have HB := n7_; have BK524 := n8_; have GW524 := n9_; have GE524 := n10_; have NB481_524 := n11_; have NB524_481 := n12_; have NB482_524 := n13_; have NB524_482 := n14_; have NB506_524 := n15_; have NB524_506 := n16_; clear n0_ n1_ n2_ n3_ n4_ n5_ n6_ n7_ n8_ n9_ n10_ n11_ n12_ n13_ n14_ n15_ n16_; clear hb hbox hg; have hnb80 := NB524_481.out; have hnc80 := NB481_524.out; have hnb81 := NB524_482.out; have hnc81 := NB482_524.out; have hnb82 := NB524_506.out; have hnc82 := NB506_524.out; have hcz83_0 : w79.cell? ⟨gb524, 0, none⟩ = some (.string (⟨#[]⟩ : ByteArray)) := (blk_cell BK524.out 0).trans rfl; have hcz83_1 : w79.cell? ⟨gb524, 1, none⟩ = some (.int .i64 0) := (blk_cell BK524.out 1).trans rfl; have hcz83_2 : w79.cell? ⟨gb524, 2, none⟩ = some (.slice none 0 0) := (blk_cell BK524.out 2).trans rfl; have hfz83_0 := blk_frozen BK524.out 0; have hfz83_1 := blk_frozen BK524.out 1; have hfz83_2 := blk_frozen BK524.out 2; obtain ⟨Ao84, co84, eo84⟩ := Kd.N_slice HO522.out; subst eo84) | ((with_reducible refine gate_callee (f := 29) rfl ?_); refine goesL_ (some 111) rfl rfl Try.func29 (by kernel_rfl) rfl #[.agg #[.string t518, .int .i64 t519, .slice Ao84 t520.length co84]] rfl (by (try simp only [List.map_toArray, List.map_cons, List.map_nil]); first | done | rfl | (simp only [List.length_drop, List.length_take]; rfl)) ?_; (with_reducible refine (op_Put.calls kj46 t518 t519 _ _ t520 t525 t526 _ ?side1 ?side2 A76.out).mono ?_); (case side1 => refine (Kd.N_reads' (e := 54) (base := w.heap.size) (ok := fun k_ => ((some k_ ≠ (.slice Ao12 t472.length co12 : Value).ownBlock ∧ (some k_ ≠ (.slice Ao14 t478.length co14 : Value).ownBlock ∧ (some k_ ≠ (.slice Ao12 t472.length co12 : Value).ownBlock ∧ (k_ ≠ gb481 ∧ (k_ ≠ gb482 ∧ k_ ≠ gb506))))) ∧ k_ ≠ gb524)) (n := t520.length) (c := co84) ?_).2.2; exact (kN ((Kd.N_mono (Kd.N_far (p := ⟨gb524, 2, none⟩) (Kd.N_far (p := ⟨gb524, 1, none⟩) (Kd.N_far (p := ⟨gb524, 0, none⟩) (Kd.N_mono HO522.out (fun k_ hk => (⟨hk, hk.2⟩ : _ ∧ k_ ≠ gb524))) (fun _ hk => hk.2) (.string t518)) (fun _ hk => hk.2) (.int .i64 t519)) (fun _ hk => hk.2) (.slice Ao84 t520.length co84)) (fun _ h_ => h_.1))))); (case side2 => exact (Kd.N_reads' HO522.out).2.1); rintro e w85 ⟨rfl, hb⟩; refine ⟨_, rfl, ?_⟩; have n0_ := Aside0.mk (Kd.N_below (kN ((Kd.N_mono (Kd.N_far (p := ⟨gb524, 2, none⟩) (Kd.N_far (p := ⟨gb524, 1, none⟩) (Kd.N_far (p := ⟨gb524, 0, none⟩) (Kd.N_mono HO_482003.out (fun k_ hk => (⟨hk, hk.2⟩ : _ ∧ k_ ≠ gb524))) (fun _ hk => hk.2) (.string t518)) (fun _ hk => hk.2) (.int .i64 t519)) (fun _ hk => hk.2) (.slice Ao84 t520.length co84)) (fun _ h_ => h_.1)))) hb); have n1_ := Aside0.mk (Kd.N_below (kN ((Kd.N_mono (Kd.N_far (p := ⟨gb524, 2, none⟩) (Kd.N_far (p := ⟨gb524, 1, none⟩) (Kd.N_far (p := ⟨gb524, 0, none⟩) (Kd.N_mono HO_483003.out (fun k_ hk => (⟨hk, hk.2⟩ : _ ∧ k_ ≠ gb524))) (fun _ hk => hk.2) (.string t518)) (fun _ hk => hk.2) (.int .i64 t519)) (fun _ hk => hk.2) (.slice Ao84 t520.length co84)) (fun _ h_ => h_.1)))) hb); have n2_ := Aside0.mk (Kd.N_below (kN ((Kd.N_mono (Kd.N_far (p := ⟨gb524, 2, none⟩) (Kd.N_far (p := ⟨gb524, 1, none⟩) (Kd.N_far (p := ⟨gb524, 0, none⟩) (Kd.N_mono HO_507004.out (fun k_ hk => (⟨hk, hk.2⟩ : _ ∧ k_ ≠ gb524))) (fun _ hk => hk.2) (.string t518)) (fun _ hk => hk.2) (.int .i64 t519)) (fun _ hk => hk.2) (.slice Ao84 t520.length co84)) (fun _ h_ => h_.1)))) hb); have n3_ := Aside0.mk (Kd.N_below (kN ((Kd.N_mono (Kd.N_far (p := ⟨gb524, 2, none⟩) (Kd.N_far (p := ⟨gb524, 1, none⟩) (Kd.N_far (p := ⟨gb524, 0, none⟩) (Kd.N_mono HO522.out (fun k_ hk => (⟨hk, hk.2⟩ : _ ∧ k_ ≠ gb524))) (fun _ hk => hk.2) (.string t518)) (fun _ hk => hk.2) (.int .i64 t519)) (fun _ hk => hk.2) (.slice Ao84 t520.length co84)) (fun _ h_ => h_.1)))) hb); have n4_ := Aside0.mk (blk_below (rb (blk_far (rb (blk_far (rb (blk_far (rb BK481.out) NB481_524.out _)) NB481_524.out _)) NB481_524.out _)) hb); have n5_ := Aside0.mk (blk_below (rb (blk_far (rb (blk_far (rb (blk_far (rb BK482.out) NB482_524.out _)) NB482_524.out _)) NB482_524.out _)) hb); have n6_ := Aside0.mk (blk_below (rb (blk_far (rb (blk_far (rb (blk_far (rb BK506.out) NB506_524.out _)) NB506_524.out _)) NB506_524.out _)) hb); have n7_ := Aside0.mk (blk_below (rb (blk_put (cs := #[.string t518, .int .i64 t519, .slice none 0 0]) (rb (blk_put (cs := #[.string t518, .int .i64 0, .slice none 0 0]) (rb (blk_put (cs := #[.string (⟨#[]⟩ : ByteArray), .int .i64 0, .slice none 0 0]) (rb BK524.out) 0 _ rfl)) 1 _ rfl)) 2 _ rfl)) hb); have n8_ := Aside0.mk (below_step bb hb); clear HO_482003; clear HO_483003; clear HO_507004; clear HO522; clear BK481; clear BK482; clear BK506; clear BK524; clear HB; have HO_482003 := n0_; have HO_483003 := n1_; have HO_507004 := n2_; have HO522 := n3_; have BK481 := n4_; have BK482 := n5_; have BK506 := n6_; have BK524 := n7_; have HB := n8_; clear n0_ n1_ n2_ n3_ n4_ n5_ n6_ n7_ n8_; (try clear hb); (try clear hb2); (try clear hk); (try clear hi)))
        (try simp only [Act.put, List.setIfInBounds_toArray, List.set_cons_zero, List.set_cons_succ])
        go_cut [120] (fun v120 wc => ∃ (kq : Nat) (x120_76 : Bool), v120 = .bool x120_76 ∧ Aside0 (precinctlaw18_OpBack.j2 kq a0 x120_76 = some r) ∧ Aside0 (kq ≤ kj46) ∧ Aside0 (Kd.N k54 54 wc w.heap.size (fun k_ => some k_ ≠ ((.slice Ao14 t478.length co14) : Value).ownBlock ∧ some k_ ≠ ((.slice Ao84 t520.length co84) : Value).ownBlock ∧ k_ ≠ gb481 ∧ k_ ≠ gb482 ∧ k_ ≠ gb506 ∧ k_ ≠ gb524) (.slice Ao12 t472.length co12) t472) ∧ Aside0 (Kd.N k57 57 wc w.heap.size (fun k_ => some k_ ≠ ((.slice Ao12 t472.length co12) : Value).ownBlock ∧ some k_ ≠ ((.slice Ao12 t472.length co12) : Value).ownBlock ∧ some k_ ≠ ((.slice Ao84 t520.length co84) : Value).ownBlock ∧ k_ ≠ gb481 ∧ k_ ≠ gb482 ∧ k_ ≠ gb506 ∧ k_ ≠ gb524) (.slice Ao14 t478.length co14) t478) ∧ Aside0 (Kd.N k54 54 wc w.heap.size (fun k_ => some k_ ≠ ((.slice Ao14 t478.length co14) : Value).ownBlock ∧ some k_ ≠ ((.slice Ao84 t520.length co84) : Value).ownBlock ∧ k_ ≠ gb481 ∧ k_ ≠ gb482 ∧ k_ ≠ gb506 ∧ k_ ≠ gb524) (.slice Ao12 t472.length co12) t472) ∧ Aside0 (Kd.N k54 54 wc w.heap.size (fun k_ => some k_ ≠ ((.slice Ao12 t472.length co12) : Value).ownBlock ∧ some k_ ≠ ((.slice Ao14 t478.length co14) : Value).ownBlock ∧ some k_ ≠ ((.slice Ao12 t472.length co12) : Value).ownBlock ∧ k_ ≠ gb481 ∧ k_ ≠ gb482 ∧ k_ ≠ gb506 ∧ k_ ≠ gb524) (.slice Ao84 t520.length co84) t520) ∧ Aside0 (wc.heap[gb481]? = some (.cells #[.int .i64 t469, .int .i64 t470, .string t471, (.slice Ao12 t472.length co12)] 54 (0, 0))) ∧ Aside0 (wc.heap[gb482]? = some (.cells #[.int .i64 t475, .int .i64 t476, .string t477, (.slice Ao14 t478.length co14)] 57 (0, 0))) ∧ Aside0 (wc.heap[gb506]? = some (.cells #[.int .i64 24, .int .i64 t469, .int .i64 t470, .string t471, (.slice Ao12 t472.length co12)] 82 (0, 0))) ∧ Aside0 (wc.heap[gb524]? = some (.cells #[.string t518, .int .i64 t519, (.slice Ao84 t520.length co84)] 75 (0, 0))) ∧ Aside0 (Below w.heap.size w wc))
        case first =>
         have H := HC77.out
         clear HC77
         by_cases c86 : t526 = 0
         ·rw [if_pos c86] at H
          have c86b0 : (t526 == 0) = true := beq_iff_eq.mpr c86
          have c86b1 : (t526 != 0) = false := bne_eq_false_iff_eq.mpr c86
          clear c86
          (first | rw [c86b0] | (simp only [i64_w, i32_w]; rw [c86b0]) | skip)
          have H' := Aside0.mk H
          clear H
          go_wp2
          go_meet
          case rel => exact ⟨_, ((t525.toList != a0.toList)), (by first | rfl | (simp; done) | (simp [*]; done)), H', ⟨by have := HK1.out; have := HJ46.out; first | omega | exact Nat.le_refl _⟩, ⟨kN (Kd.N_mono HO_482003.out (fun _ hk => ⟨hk.1.1.1, ⟨hk.1.2, ⟨hk.1.1.2.1, ⟨hk.1.1.2.2.1, ⟨hk.1.1.2.2.2, hk.2⟩⟩⟩⟩⟩))⟩, ⟨kN (Kd.N_mono HO_483003.out (fun _ hk => ⟨hk.1.1.1, ⟨hk.1.1.2.1, ⟨hk.1.2, ⟨hk.1.1.2.2.1, ⟨hk.1.1.2.2.2.1, ⟨hk.1.1.2.2.2.2, hk.2⟩⟩⟩⟩⟩⟩))⟩, ⟨kN (Kd.N_mono HO_507004.out (fun _ hk => ⟨hk.1.1.1, ⟨hk.1.2, ⟨hk.1.1.2.1, ⟨hk.1.1.2.2.1, ⟨hk.1.1.2.2.2, hk.2⟩⟩⟩⟩⟩))⟩, ⟨kN (Kd.N_mono HO522.out (fun _ hk => ⟨hk.1.1, ⟨hk.1.2.1, ⟨hk.1.2.2.1, ⟨hk.1.2.2.2.1, ⟨hk.1.2.2.2.2.1, ⟨hk.1.2.2.2.2.2, hk.2⟩⟩⟩⟩⟩⟩))⟩, ⟨by (with_reducible repeat (first | refine blk_drewN ?_ _ | refine blk_drew ?_ | refine blk_alloc ?_ _)); exact BK481.out⟩, ⟨by (with_reducible repeat (first | refine blk_drewN ?_ _ | refine blk_drew ?_ | refine blk_alloc ?_ _)); exact BK482.out⟩, ⟨by (with_reducible repeat (first | refine blk_drewN ?_ _ | refine blk_drew ?_ | refine blk_alloc ?_ _)); exact BK506.out⟩, ⟨by (with_reducible repeat (first | refine blk_drewN ?_ _ | refine blk_drew ?_ | refine blk_alloc ?_ _)); exact BK524.out⟩, ⟨bb⟩⟩
         ·rw [if_neg c86] at H
          have c86b0 : (t526 == 0) = false := beq_eq_false_iff_ne.mpr c86
          have c86b1 : (t526 != 0) = true := bne_iff_ne.mpr c86
          (first | rw [c86b0] | (simp only [i64_w, i32_w]; rw [c86b0]) | skip)
          have H' := Aside0.mk H
          clear H
          go_wp2
          go_meet
          case rel => exact ⟨_, (true), (by first | rfl | (simp; done) | (simp [*]; done)), H', ⟨by have := HK1.out; have := HJ46.out; first | omega | exact Nat.le_refl _⟩, ⟨kN (Kd.N_mono HO_482003.out (fun _ hk => ⟨hk.1.1.1, ⟨hk.1.2, ⟨hk.1.1.2.1, ⟨hk.1.1.2.2.1, ⟨hk.1.1.2.2.2, hk.2⟩⟩⟩⟩⟩))⟩, ⟨kN (Kd.N_mono HO_483003.out (fun _ hk => ⟨hk.1.1.1, ⟨hk.1.1.2.1, ⟨hk.1.2, ⟨hk.1.1.2.2.1, ⟨hk.1.1.2.2.2.1, ⟨hk.1.1.2.2.2.2, hk.2⟩⟩⟩⟩⟩⟩))⟩, ⟨kN (Kd.N_mono HO_507004.out (fun _ hk => ⟨hk.1.1.1, ⟨hk.1.2, ⟨hk.1.1.2.1, ⟨hk.1.1.2.2.1, ⟨hk.1.1.2.2.2, hk.2⟩⟩⟩⟩⟩))⟩, ⟨kN (Kd.N_mono HO522.out (fun _ hk => ⟨hk.1.1, ⟨hk.1.2.1, ⟨hk.1.2.2.1, ⟨hk.1.2.2.2.1, ⟨hk.1.2.2.2.2.1, ⟨hk.1.2.2.2.2.2, hk.2⟩⟩⟩⟩⟩⟩))⟩, ⟨by (with_reducible repeat (first | refine blk_drewN ?_ _ | refine blk_drew ?_ | refine blk_alloc ?_ _)); exact BK481.out⟩, ⟨by (with_reducible repeat (first | refine blk_drewN ?_ _ | refine blk_drew ?_ | refine blk_alloc ?_ _)); exact BK482.out⟩, ⟨by (with_reducible repeat (first | refine blk_drewN ?_ _ | refine blk_drew ?_ | refine blk_alloc ?_ _)); exact BK506.out⟩, ⟨by (with_reducible repeat (first | refine blk_drewN ?_ _ | refine blk_drew ?_ | refine blk_alloc ?_ _)); exact BK524.out⟩, ⟨bb⟩⟩
        case rest =>
         clear HC77
         try clear c1
         try clear c2
         try clear p2
         try clear c3
         try clear c4
         try clear c5
         try clear c6
         try clear p6
         try clear c7
         try clear c8
         try clear c10
         try clear c11
         try clear c16
         try clear c16b0
         try clear c18
         try clear c18b0
         try clear c18b1
         try clear c20
         try clear c20b0
         try clear c20b1
         try clear c21
         try clear c21b0
         try clear c21b1
         try clear c22
         try clear c22b0
         try clear c22b1
         try clear c26
         try clear c27
         try clear c28
         try clear c29
         try clear c31
         try clear c32
         try clear c33
         try clear c34
         try clear c36
         try clear c40
         try clear c43
         try clear c48
         try clear c51
         try clear c52
         try clear c57
         try clear c57b0
         try clear c57b1
         try clear c59
         try clear c59b0
         try clear c59b1
         try clear c60
         try clear c60b0
         try clear c60b1
         try clear c62
         try clear p64
         try clear c65
         try clear c66
         try clear c67
         try clear c70
         try clear c71
         try clear c75
         try clear c75b0
         try clear c75b1
         try clear c80
         try clear c81
         try clear c82
         try clear c86
         try clear c86b0
         try clear c86b1
         try clear hcz11_0
         try clear hcz11_1
         try clear hcz11_2
         try clear hcz11_3
         try clear hcz13_0
         try clear hcz13_1
         try clear hcz13_2
         try clear hcz13_3
         try clear hcz28_0
         try clear hcz28_1
         try clear hcz28_2
         try clear hcz28_3
         try clear hcz34_0
         try clear hcz34_1
         try clear hcz34_2
         try clear hcz44_0
         try clear hcz44_1
         try clear hcz44_2
         try clear hcz44_3
         try clear hcz49_0
         try clear hcz49_1
         try clear hcz49_2
         try clear hcz49_3
         try clear hcz53_0
         try clear hcz53_1
         try clear hcz53_2
         try clear hcz53_3
         try clear hcz53_4
         try clear hcz55_0
         try clear hcz55_1
         try clear hcz55_2
         try clear hcz55_3
         try clear hcz55_4
         try clear hcz68_0
         try clear hcz68_1
         try clear hcz68_2
         try clear hcz68_3
         try clear hcz68_4
         try clear hcz72_0
         try clear hcz72_1
         try clear hcz72_2
         try clear hcz72_3
         try clear hcz72_4
         try clear hcz83_0
         try clear hcz83_1
         try clear hcz83_2
         try clear hfz11_0
         try clear hfz11_1
         try clear hfz11_2
         try clear hfz11_3
         try clear hfz13_0
         try clear hfz13_1
         try clear hfz13_2
         try clear hfz13_3
         try clear hfz28_0
         try clear hfz28_1
         try clear hfz28_2
         try clear hfz28_3
         try clear hfz34_0
         try clear hfz34_1
         try clear hfz34_2
         try clear hfz44_0
         try clear hfz44_1
         try clear hfz44_2
         try clear hfz44_3
         try clear hfz49_0
         try clear hfz49_1
         try clear hfz49_2
         try clear hfz49_3
         try clear hfz53_0
         try clear hfz53_1
         try clear hfz53_2
         try clear hfz53_3
         try clear hfz53_4
         try clear hfz55_0
         try clear hfz55_1
         try clear hfz55_2
         try clear hfz55_3
         try clear hfz55_4
         try clear hfz68_0
         try clear hfz68_1
         try clear hfz68_2
         try clear hfz68_3
         try clear hfz68_4
         try clear hfz72_0
         try clear hfz72_1
         try clear hfz72_2
         try clear hfz72_3
         try clear hfz72_4
         try clear hfz83_0
         try clear hfz83_1
         try clear hfz83_2
         try clear p2
         try clear p6
         try clear p64
         obtain ⟨kq, x120_76, rfl, HA, HJ76, HO_482003, HO_483003, HO_507004, HO_525002, BK481, BK482, BK506, BK524, HB⟩ := hcut
         cases kq with
         | zero => exact absurd HA.out (by simp [precinctlaw18_OpBack.j2])
         | succ kj76 =>
          have H := HA.out
          clear HA
          simp only [precinctlaw18_OpBack.j2] at H
          by_cases c87 : x120_76 = true
          ·subst c87
           have H1 : (some false) = some r := by rw [if_pos rfl] at H; exact H
           clear H
           have H := H1
           clear H1
           exact absurd ((Option.some.inj H).trans hT_.out) (by decide)
          ·replace c87 := Bool.eq_false_iff.mpr c87
           subst c87
           have H1 : ((op_Told.f a0).bind fun bt527 => (if bt527.2.2.2.2.2 = 0 then ((op_Answer_Bytes.f kj76 bt527.1 bt527.2.1 bt527.2.2.1 bt527.2.2.2.1 bt527.2.2.2.2.1).bind fun t536 => (some (t536.toList == a0.toList))) else (some true))) = some r := by rw [if_neg (show ¬ (false = true) by decide)] at H; exact H
           clear H
           have H := H1
           clear H1
           replace H := Option.bind_eq_some_iff.mp H
           obtain ⟨⟨t527, t528, t529, t530, t531, t534⟩, A880, H⟩ := H
           replace H : (if t534 = 0 then ((op_Answer_Bytes.f kj76 t527 t528 t529 t530 t531).bind fun t536 => (some (t536.toList == a0.toList))) else (some true)) = some r := H
           have A88 := Aside0.mk A880
           clear A880
           by_cases c89 : t534 = 0
           ·rw [if_pos c89] at H
            have c89b0 : (t534 == 0) = true := beq_iff_eq.mpr c89
            have c89b1 : (t534 != 0) = false := bne_eq_false_iff_eq.mpr c89
            clear c89
            replace H := Option.bind_eq_some_iff.mp H
            obtain ⟨t536, A900, H⟩ := H
            replace H : (some (t536.toList == a0.toList)) = some r := H
            have A90 := Aside0.mk A900
            clear A900
            obtain rfl := Option.some.inj H
            go_wp2_with (first | ((with_reducible refine gate_callee (f := 36) rfl ?_); refine goesL_ (some 123) rfl rfl Try.func36 (by kernel_rfl) rfl #[.string a0] rfl (by (try simp only [List.map_toArray, List.map_cons, List.map_nil]); first | done | rfl | (simp only [List.length_drop, List.length_take]; rfl)) ?_; (with_reducible refine (op_Told.calls a0 t527 t528 t529 t530 t531 t534 _ A88.out).mono ?_); rintro e w91 ⟨v532, rfl, ho0, hb⟩; refine ⟨_, rfl, ?_⟩; have n0_ := Aside0.mk (Kd.N_elder' (kN HO_482003.out) (by first | exact Kd.N_base ho0 | exact Kd.N_base (Kd.R_N ho0)) hb); have n1_ := Aside0.mk (Kd.N_elder' (kN HO_483003.out) (by first | exact Kd.N_base ho0 | exact Kd.N_base (Kd.R_N ho0)) hb); have n2_ := Aside0.mk (Kd.N_elder' (kN HO_507004.out) (by first | exact Kd.N_base ho0 | exact Kd.N_base (Kd.R_N ho0)) hb); have n3_ := Aside0.mk (Kd.N_elder' (kN HO_525002.out) (by first | exact Kd.N_base ho0 | exact Kd.N_base (Kd.R_N ho0)) hb); have n4_ := Aside0.mk (Kd.N_lower (Kd.N_mono (ok' := fun k_ => some k_ ≠ (.slice Ao12 t472.length co12 : Value).ownBlock ∧ some k_ ≠ (.slice Ao14 t478.length co14 : Value).ownBlock ∧ some k_ ≠ (.slice Ao12 t472.length co12 : Value).ownBlock ∧ some k_ ≠ (.slice Ao84 t520.length co84 : Value).ownBlock ∧ k_ ≠ gb481 ∧ k_ ≠ gb482 ∧ k_ ≠ gb506 ∧ k_ ≠ gb524) (Kd.R_N (Kd.R_bound ho0)) (fun k_ hk_ => ⟨(Kd.fresh' (Kd.N_lt (kN HO_482003.out)) k_ hk_.2.1), (Kd.fresh' (Kd.N_lt (kN HO_483003.out)) k_ hk_.2.1), (Kd.fresh' (Kd.N_lt (kN HO_507004.out)) k_ hk_.2.1), (Kd.fresh' (Kd.N_lt (kN HO_525002.out)) k_ hk_.2.1), (Kd.freshB (rb BK481.out) k_ hk_.2.1), (Kd.freshB (rb BK482.out) k_ hk_.2.1), (Kd.freshB (rb BK506.out) k_ hk_.2.1), (Kd.freshB (rb BK524.out) k_ hk_.2.1)⟩)) (below_size bb)); have n5_ := Aside0.mk (blk_below (rb BK481.out) hb); have n6_ := Aside0.mk (blk_below (rb BK482.out) hb); have n7_ := Aside0.mk (blk_below (rb BK506.out) hb); have n8_ := Aside0.mk (blk_below (rb BK524.out) hb); have n9_ := Aside0.mk (below_step bb hb); clear HO_482003; clear HO_483003; clear HO_507004; clear HO_525002; clear BK481; clear BK482; clear BK506; clear BK524; clear HB; have HO_482003 := n0_; have HO_483003 := n1_; have HO_507004 := n2_; have HO_525002 := n3_; have HO533 := n4_; have BK481 := n5_; have BK482 := n6_; have BK506 := n7_; have BK524 := n8_; have HB := n9_; clear n0_ n1_ n2_ n3_ n4_ n5_ n6_ n7_ n8_ n9_; (try clear hb); (try clear hb2); (try clear hk); (try clear hi); (try clear ho0)) | ((with_reducible refine gate_dst (N := 21) rfl ?_); refine box_event ?hg (N := 21) ?hd (cs := #[.int .i64 0, .int .i64 0, .int .i64 0, .string (⟨#[]⟩ : ByteArray), .slice none 0 0]) (t := 82) ?hr ?_; (case hd => rfl); (case hg => rfl); (case hr => first | (go_simp; done) | (go_simp; rfl)); intro gb535 hg w92 hbox hb; have n0_ := Aside0.mk (Kd.N_below (Kd.N_elderB (kN HO_482003.out) gb535 (Nat.le_of_eq hg.symm)) hb); have n1_ := Aside0.mk (Kd.N_below (Kd.N_elderB (kN HO_483003.out) gb535 (Nat.le_of_eq hg.symm)) hb); have n2_ := Aside0.mk (Kd.N_below (Kd.N_elderB (kN HO_507004.out) gb535 (Nat.le_of_eq hg.symm)) hb); have n3_ := Aside0.mk (Kd.N_below (Kd.N_elderB (kN HO_525002.out) gb535 (Nat.le_of_eq hg.symm)) hb); have n4_ := Aside0.mk (Kd.N_below (Kd.N_elderB (kN HO533.out) gb535 (Nat.le_of_eq hg.symm)) hb); have n5_ := Aside0.mk (blk_below (rb BK481.out) hb); have n6_ := Aside0.mk (blk_below (rb BK482.out) hb); have n7_ := Aside0.mk (blk_below (rb BK506.out) hb); have n8_ := Aside0.mk (blk_below (rb BK524.out) hb); have n9_ := Aside0.mk (below_step bb hb); have n10_ := Aside0.mk (hbox); have n11_ := Aside0.mk ((by rw [hg]; exact (below_size bb) : w.heap.size ≤ gb535)); have n12_ := Aside0.mk ((by rw [hg]; exact (below_size bb) : w.heap.size ≤ gb535)); have n13_ := Aside0.mk ((by rw [hg]; exact Nat.ne_of_lt (blk_lt (rb BK481.out)) : gb481 ≠ gb535)); have n14_ := Aside0.mk ((by rw [hg]; exact Nat.ne_of_gt (blk_lt (rb BK481.out)) : gb535 ≠ gb481)); have n15_ := Aside0.mk ((by rw [hg]; exact Nat.ne_of_lt (blk_lt (rb BK482.out)) : gb482 ≠ gb535)); have n16_ := Aside0.mk ((by rw [hg]; exact Nat.ne_of_gt (blk_lt (rb BK482.out)) : gb535 ≠ gb482)); have n17_ := Aside0.mk ((by rw [hg]; exact Nat.ne_of_lt (blk_lt (rb BK506.out)) : gb506 ≠ gb535)); have n18_ := Aside0.mk ((by rw [hg]; exact Nat.ne_of_gt (blk_lt (rb BK506.out)) : gb535 ≠ gb506)); have n19_ := Aside0.mk ((by rw [hg]; exact Nat.ne_of_lt (blk_lt (rb BK524.out)) : gb524 ≠ gb535)); have n20_ := Aside0.mk ((by rw [hg]; exact Nat.ne_of_gt (blk_lt (rb BK524.out)) : gb535 ≠ gb524)); clear HO_482003; clear HO_483003; clear HO_507004; clear HO_525002; clear HO533; clear BK481; clear BK482; clear BK506; clear BK524; clear HB; have HO_482003 := n0_; have HO_483003 := n1_; have HO_507004 := n2_; have HO_525002 := n3_; have HO533 := n4_; have BK481 := n5_; have BK482 := n6_; have BK506 := n7_; have BK524 := n8_; have HB := n9_; have BK535 := n10_; have GW535 := n11_; have GE535 := n12_; have NB481_535 := n13_; have NB535_481 := n14_; have NB482_535 := n15_; have NB535_482 := n16_; have NB506_535 := n17_; have NB535_506 := n18_; have NB524_535 := n19_; have NB535_524 := n20_; clear n0_ n1_ n2_ n3_ n4_ n5_ n6_ n7_ n8_ n9_ n10_ n11_ n12_ n13_ n14_ n15_ n16_ n17_ n18_ n19_ n20_; clear hb hbox hg; have hnb93 := NB535_481.out; have hnc93 := NB481_535.out; have hnb94 := NB535_482.out; have hnc94 := NB482_535.out; have hnb95 := NB535_506.out; have hnc95 := NB506_535.out; have hnb96 := NB535_524.out; have hnc96 := NB524_535.out; have hcz97_0 : w92.cell? ⟨gb535, 0, none⟩ = some (.int .i64 0) := (blk_cell BK535.out 0).trans rfl; have hcz97_1 : w92.cell? ⟨gb535, 1, none⟩ = some (.int .i64 0) := (blk_cell BK535.out 1).trans rfl; have hcz97_2 : w92.cell? ⟨gb535, 2, none⟩ = some (.int .i64 0) := (blk_cell BK535.out 2).trans rfl; have hcz97_3 : w92.cell? ⟨gb535, 3, none⟩ = some (.string (⟨#[]⟩ : ByteArray)) := (blk_cell BK535.out 3).trans rfl; have hcz97_4 : w92.cell? ⟨gb535, 4, none⟩ = some (.slice none 0 0) := (blk_cell BK535.out 4).trans rfl; have hfz97_0 := blk_frozen BK535.out 0; have hfz97_1 := blk_frozen BK535.out 1; have hfz97_2 := blk_frozen BK535.out 2; have hfz97_3 := blk_frozen BK535.out 3; have hfz97_4 := blk_frozen BK535.out 4; obtain ⟨Ao98, co98, eo98⟩ := Kd.N_slice HO533.out; subst eo98) | ((with_reducible refine gate_store (t := 82) (p := 21) rfl ?_); refine store_event (t := 82) (p := 21) (v := ?vo_w99) (w1 := (((((w92.setCell ⟨gb535, 0, none⟩ (.int .i64 t527)).setCell ⟨gb535, 1, none⟩ (.int .i64 t528)).setCell ⟨gb535, 2, none⟩ (.int .i64 t529)).setCell ⟨gb535, 3, none⟩ (.string t530)).setCell ⟨gb535, 4, none⟩ (.slice Ao98 t531.length co98))) ?hg ?ho ?hn ?hr ?_; (case ho => rfl); (case hg => rfl); (case hn => rfl); (case hr => first | (go_simp; done) | (go_simp; rfl)); intro w99 hw; have n0_ : Aside0 (Kd.N k54 54 w99 w.heap.size (fun k_ => some k_ ≠ (.slice Ao14 t478.length co14 : Value).ownBlock ∧ some k_ ≠ (.slice Ao84 t520.length co84 : Value).ownBlock ∧ some k_ ≠ (.slice Ao98 t531.length co98 : Value).ownBlock ∧ k_ ≠ gb481 ∧ k_ ≠ gb482 ∧ k_ ≠ gb506 ∧ k_ ≠ gb524 ∧ k_ ≠ gb535) (.slice Ao12 t472.length co12) t472) := ⟨(by rw [hw]; exact (kN (Kd.N_mono (Kd.N_far (p := ⟨gb535, 4, none⟩) (Kd.N_far (p := ⟨gb535, 3, none⟩) (Kd.N_far (p := ⟨gb535, 2, none⟩) (Kd.N_far (p := ⟨gb535, 1, none⟩) (Kd.N_far (p := ⟨gb535, 0, none⟩) (Kd.N_mono HO_482003.out (fun k_ hk => (⟨hk, hk.2⟩ : _ ∧ k_ ≠ gb535))) (fun _ hk => hk.2) (.int .i64 t527)) (fun _ hk => hk.2) (.int .i64 t528)) (fun _ hk => hk.2) (.int .i64 t529)) (fun _ hk => hk.2) (.string t530)) (fun _ hk => hk.2) (.slice Ao98 t531.length co98)) (fun _ hk => ⟨hk.1.1.1.1, ⟨hk.1.1.1.2.1, ⟨hk.1.1.2, ⟨hk.1.1.1.2.2.1, ⟨hk.1.1.1.2.2.2.1, ⟨hk.1.1.1.2.2.2.2.1, ⟨hk.1.1.1.2.2.2.2.2, hk.1.2⟩⟩⟩⟩⟩⟩⟩))))⟩; have n1_ : Aside0 (Kd.N k57 57 w99 w.heap.size (fun k_ => some k_ ≠ (.slice Ao12 t472.length co12 : Value).ownBlock ∧ some k_ ≠ (.slice Ao12 t472.length co12 : Value).ownBlock ∧ some k_ ≠ (.slice Ao84 t520.length co84 : Value).ownBlock ∧ some k_ ≠ (.slice Ao98 t531.length co98 : Value).ownBlock ∧ k_ ≠ gb481 ∧ k_ ≠ gb482 ∧ k_ ≠ gb506 ∧ k_ ≠ gb524 ∧ k_ ≠ gb535) (.slice Ao14 t478.length co14) t478) := ⟨(by rw [hw]; exact (kN (Kd.N_mono (Kd.N_far (p := ⟨gb535, 4, none⟩) (Kd.N_far (p := ⟨gb535, 3, none⟩) (Kd.N_far (p := ⟨gb535, 2, none⟩) (Kd.N_far (p := ⟨gb535, 1, none⟩) (Kd.N_far (p := ⟨gb535, 0, none⟩) (Kd.N_mono HO_483003.out (fun k_ hk => (⟨hk, hk.2⟩ : _ ∧ k_ ≠ gb535))) (fun _ hk => hk.2) (.int .i64 t527)) (fun _ hk => hk.2) (.int .i64 t528)) (fun _ hk => hk.2) (.int .i64 t529)) (fun _ hk => hk.2) (.string t530)) (fun _ hk => hk.2) (.slice Ao98 t531.length co98)) (fun _ hk => ⟨hk.1.1.1.1, ⟨hk.1.1.1.2.1, ⟨hk.1.1.1.2.2.1, ⟨hk.1.1.2, ⟨hk.1.1.1.2.2.2.1, ⟨hk.1.1.1.2.2.2.2.1, ⟨hk.1.1.1.2.2.2.2.2.1, ⟨hk.1.1.1.2.2.2.2.2.2, hk.1.2⟩⟩⟩⟩⟩⟩⟩⟩))))⟩; have n2_ : Aside0 (Kd.N k54 54 w99 w.heap.size (fun k_ => some k_ ≠ (.slice Ao14 t478.length co14 : Value).ownBlock ∧ some k_ ≠ (.slice Ao84 t520.length co84 : Value).ownBlock ∧ some k_ ≠ (.slice Ao98 t531.length co98 : Value).ownBlock ∧ k_ ≠ gb481 ∧ k_ ≠ gb482 ∧ k_ ≠ gb506 ∧ k_ ≠ gb524 ∧ k_ ≠ gb535) (.slice Ao12 t472.length co12) t472) := ⟨(by rw [hw]; exact (kN (Kd.N_mono (Kd.N_far (p := ⟨gb535, 4, none⟩) (Kd.N_far (p := ⟨gb535, 3, none⟩) (Kd.N_far (p := ⟨gb535, 2, none⟩) (Kd.N_far (p := ⟨gb535, 1, none⟩) (Kd.N_far (p := ⟨gb535, 0, none⟩) (Kd.N_mono HO_507004.out (fun k_ hk => (⟨hk, hk.2⟩ : _ ∧ k_ ≠ gb535))) (fun _ hk => hk.2) (.int .i64 t527)) (fun _ hk => hk.2) (.int .i64 t528)) (fun _ hk => hk.2) (.int .i64 t529)) (fun _ hk => hk.2) (.string t530)) (fun _ hk => hk.2) (.slice Ao98 t531.length co98)) (fun _ hk => ⟨hk.1.1.1.1, ⟨hk.1.1.1.2.1, ⟨hk.1.1.2, ⟨hk.1.1.1.2.2.1, ⟨hk.1.1.1.2.2.2.1, ⟨hk.1.1.1.2.2.2.2.1, ⟨hk.1.1.1.2.2.2.2.2, hk.1.2⟩⟩⟩⟩⟩⟩⟩))))⟩; have n3_ : Aside0 (Kd.N k54 54 w99 w.heap.size (fun k_ => some k_ ≠ (.slice Ao12 t472.length co12 : Value).ownBlock ∧ some k_ ≠ (.slice Ao14 t478.length co14 : Value).ownBlock ∧ some k_ ≠ (.slice Ao12 t472.length co12 : Value).ownBlock ∧ some k_ ≠ (.slice Ao98 t531.length co98 : Value).ownBlock ∧ k_ ≠ gb481 ∧ k_ ≠ gb482 ∧ k_ ≠ gb506 ∧ k_ ≠ gb524 ∧ k_ ≠ gb535) (.slice Ao84 t520.length co84) t520) := ⟨(by rw [hw]; exact (kN (Kd.N_mono (Kd.N_far (p := ⟨gb535, 4, none⟩) (Kd.N_far (p := ⟨gb535, 3, none⟩) (Kd.N_far (p := ⟨gb535, 2, none⟩) (Kd.N_far (p := ⟨gb535, 1, none⟩) (Kd.N_far (p := ⟨gb535, 0, none⟩) (Kd.N_mono HO_525002.out (fun k_ hk => (⟨hk, hk.2⟩ : _ ∧ k_ ≠ gb535))) (fun _ hk => hk.2) (.int .i64 t527)) (fun _ hk => hk.2) (.int .i64 t528)) (fun _ hk => hk.2) (.int .i64 t529)) (fun _ hk => hk.2) (.string t530)) (fun _ hk => hk.2) (.slice Ao98 t531.length co98)) (fun _ hk => ⟨hk.1.1.1.1, ⟨hk.1.1.1.2.1, ⟨hk.1.1.1.2.2.1, ⟨hk.1.1.2, ⟨hk.1.1.1.2.2.2.1, ⟨hk.1.1.1.2.2.2.2.1, ⟨hk.1.1.1.2.2.2.2.2.1, ⟨hk.1.1.1.2.2.2.2.2.2, hk.1.2⟩⟩⟩⟩⟩⟩⟩⟩))))⟩; have n4_ : Aside0 (Kd.N k54 54 w99 w.heap.size (fun k_ => some k_ ≠ (.slice Ao12 t472.length co12 : Value).ownBlock ∧ some k_ ≠ (.slice Ao14 t478.length co14 : Value).ownBlock ∧ some k_ ≠ (.slice Ao12 t472.length co12 : Value).ownBlock ∧ some k_ ≠ (.slice Ao84 t520.length co84 : Value).ownBlock ∧ k_ ≠ gb481 ∧ k_ ≠ gb482 ∧ k_ ≠ gb506 ∧ k_ ≠ gb524 ∧ k_ ≠ gb535) (.slice Ao98 t531.length co98) t531) := ⟨(by rw [hw]; exact (kN (Kd.N_mono (Kd.N_far (p := ⟨gb535, 4, none⟩) (Kd.N_far (p := ⟨gb535, 3, none⟩) (Kd.N_far (p := ⟨gb535, 2, none⟩) (Kd.N_far (p := ⟨gb535, 1, none⟩) (Kd.N_far (p := ⟨gb535, 0, none⟩) (Kd.N_mono HO533.out (fun k_ hk => (⟨hk, hk.2⟩ : _ ∧ k_ ≠ gb535))) (fun _ hk => hk.2) (.int .i64 t527)) (fun _ hk => hk.2) (.int .i64 t528)) (fun _ hk => hk.2) (.int .i64 t529)) (fun _ hk => hk.2) (.string t530)) (fun _ hk => hk.2) (.slice Ao98 t531.length co98)) (fun _ hk => ⟨hk.1.1.1, ⟨hk.1.1.2.1, ⟨hk.1.1.2.2.1, ⟨hk.1.1.2.2.2.1, ⟨hk.1.1.2.2.2.2.1, ⟨hk.1.1.2.2.2.2.2.1, ⟨hk.1.1.2.2.2.2.2.2.1, ⟨hk.1.1.2.2.2.2.2.2.2, hk.1.2⟩⟩⟩⟩⟩⟩⟩⟩))))⟩; have n5_ : Aside0 (w99.heap[gb481]? = some (.cells #[.int .i64 t469, .int .i64 t470, .string t471, .slice Ao12 t472.length co12] 54 (0, 0))) := ⟨(by rw [hw]; exact (rb (blk_far (rb (blk_far (rb (blk_far (rb (blk_far (rb (blk_far (rb BK481.out) NB481_535.out _)) NB481_535.out _)) NB481_535.out _)) NB481_535.out _)) NB481_535.out _)))⟩; have n6_ : Aside0 (w99.heap[gb482]? = some (.cells #[.int .i64 t475, .int .i64 t476, .string t477, .slice Ao14 t478.length co14] 57 (0, 0))) := ⟨(by rw [hw]; exact (rb (blk_far (rb (blk_far (rb (blk_far (rb (blk_far (rb (blk_far (rb BK482.out) NB482_535.out _)) NB482_535.out _)) NB482_535.out _)) NB482_535.out _)) NB482_535.out _)))⟩; have n7_ : Aside0 (w99.heap[gb506]? = some (.cells #[.int .i64 24, .int .i64 t469, .int .i64 t470, .string t471, .slice Ao12 t472.length co12] 82 (0, 0))) := ⟨(by rw [hw]; exact (rb (blk_far (rb (blk_far (rb (blk_far (rb (blk_far (rb (blk_far (rb BK506.out) NB506_535.out _)) NB506_535.out _)) NB506_535.out _)) NB506_535.out _)) NB506_535.out _)))⟩; have n8_ : Aside0 (w99.heap[gb524]? = some (.cells #[.string t518, .int .i64 t519, .slice Ao84 t520.length co84] 75 (0, 0))) := ⟨(by rw [hw]; exact (rb (blk_far (rb (blk_far (rb (blk_far (rb (blk_far (rb (blk_far (rb BK524.out) NB524_535.out _)) NB524_535.out _)) NB524_535.out _)) NB524_535.out _)) NB524_535.out _)))⟩; have n9_ : Aside0 (w99.heap[gb535]? = some (.cells #[.int .i64 t527, .int .i64 t528, .int .i64 t529, .string t530, .slice Ao98 t531.length co98] 82 (0, 0))) := ⟨(by rw [hw]; exact (rb (blk_put (cs := #[.int .i64 t527, .int .i64 t528, .int .i64 t529, .string t530, .slice none 0 0]) (rb (blk_put (cs := #[.int .i64 t527, .int .i64 t528, .int .i64 t529, .string (⟨#[]⟩ : ByteArray), .slice none 0 0]) (rb (blk_put (cs := #[.int .i64 t527, .int .i64 t528, .int .i64 0, .string (⟨#[]⟩ : ByteArray), .slice none 0 0]) (rb (blk_put (cs := #[.int .i64 t527, .int .i64 0, .int .i64 0, .string (⟨#[]⟩ : ByteArray), .slice none 0 0]) (rb (blk_put (cs := #[.int .i64 0, .int .i64 0, .int .i64 0, .string (⟨#[]⟩ : ByteArray), .slice none 0 0]) (rb BK535.out) 0 _ rfl)) 1 _ rfl)) 2 _ rfl)) 3 _ rfl)) 4 _ rfl)))⟩; have n10_ : Aside0 (Below w.heap.size w w99) := ⟨(by rw [hw]; exact bb)⟩; clear hw; clear HO_482003; clear HO_483003; clear HO_507004; clear HO_525002; clear HO533; clear BK481; clear BK482; clear BK506; clear BK524; clear BK535; clear HB; have HO_482003 := n0_; have HO_483003 := n1_; have HO_507004 := n2_; have HO_525002 := n3_; have HO533 := n4_; have BK481 := n5_; have BK482 := n6_; have BK506 := n7_; have BK524 := n8_; have BK535 := n9_; have HB := n10_; clear n0_ n1_ n2_ n3_ n4_ n5_ n6_ n7_ n8_ n9_ n10_; have hcz100_0 : w99.cell? ⟨gb535, 0, none⟩ = some (.int .i64 t527) := (blk_cell BK535.out 0).trans rfl; have hcz100_1 : w99.cell? ⟨gb535, 1, none⟩ = some (.int .i64 t528) := (blk_cell BK535.out 1).trans rfl; have hcz100_2 : w99.cell? ⟨gb535, 2, none⟩ = some (.int .i64 t529) := (blk_cell BK535.out 2).trans rfl; have hcz100_3 : w99.cell? ⟨gb535, 3, none⟩ = some (.string t530) := (blk_cell BK535.out 3).trans rfl; have hcz100_4 : w99.cell? ⟨gb535, 4, none⟩ = some (.slice Ao98 t531.length co98) := (blk_cell BK535.out 4).trans rfl; have hfz100_0 := blk_frozen BK535.out 0; have hfz100_1 := blk_frozen BK535.out 1; have hfz100_2 := blk_frozen BK535.out 2; have hfz100_3 := blk_frozen BK535.out 3; have hfz100_4 := blk_frozen BK535.out 4) | (go_at_call 32; (with_reducible refine (op_Answer_Bytes.calls kj76 t527 t528 t529 t530 (fun k_ => (some k_ ≠ (.slice Ao12 t472.length co12 : Value).ownBlock ∧ (some k_ ≠ (.slice Ao14 t478.length co14 : Value).ownBlock ∧ (some k_ ≠ (.slice Ao12 t472.length co12 : Value).ownBlock ∧ (some k_ ≠ (.slice Ao84 t520.length co84 : Value).ownBlock ∧ (k_ ≠ gb481 ∧ (k_ ≠ gb482 ∧ (k_ ≠ gb506 ∧ (k_ ≠ gb524 ∧ k_ ≠ gb535))))))))) _ _ t531 t536 _ ?side1 A90.out).mono ?_); (case side1 => exact Kd.N_V (HO533.out)); rintro e w101 ⟨rfl, hb⟩; have n0_ := Aside0.mk (Kd.N_below (kN HO_482003.out) hb); have n1_ := Aside0.mk (Kd.N_below (kN HO_483003.out) hb); have n2_ := Aside0.mk (Kd.N_below (kN HO_507004.out) hb); have n3_ := Aside0.mk (Kd.N_below (kN HO_525002.out) hb); have n4_ := Aside0.mk (Kd.N_below (kN HO533.out) hb); have n5_ := Aside0.mk (blk_below (rb BK481.out) hb); have n6_ := Aside0.mk (blk_below (rb BK482.out) hb); have n7_ := Aside0.mk (blk_below (rb BK506.out) hb); have n8_ := Aside0.mk (blk_below (rb BK524.out) hb); have n9_ := Aside0.mk (blk_below (rb BK535.out) hb); have n10_ := Aside0.mk (below_step bb hb); clear HO_482003; clear HO_483003; clear HO_507004; clear HO_525002; clear HO533; clear BK481; clear BK482; clear BK506; clear BK524; clear BK535; clear HB; have HO_482003 := n0_; have HO_483003 := n1_; have HO_507004 := n2_; have HO_525002 := n3_; have HO533 := n4_; have BK481 := n5_; have BK482 := n6_; have BK506 := n7_; have BK524 := n8_; have BK535 := n9_; have HB := n10_; clear n0_ n1_ n2_ n3_ n4_ n5_ n6_ n7_ n8_ n9_ n10_; (try clear hb); (try clear hb2); (try clear hk); (try clear hi)))
            go_ret
            exact ⟨by first | rfl | (simp [errW_none, errW_some] <;> rfl) | (simp [*, errW_none, errW_some] <;> rfl), bb⟩
           ·rw [if_neg c89] at H
            have c89b0 : (t534 == 0) = false := beq_eq_false_iff_ne.mpr c89
            have c89b1 : (t534 != 0) = true := bne_iff_ne.mpr c89
            obtain rfl := Option.some.inj H
            go_wp2_with (first | ((with_reducible refine gate_callee (f := 36) rfl ?_); refine goesL_ (some 123) rfl rfl Try.func36 (by kernel_rfl) rfl #[.string a0] rfl (by (try simp only [List.map_toArray, List.map_cons, List.map_nil]); first | done | rfl | (simp only [List.length_drop, List.length_take]; rfl)) ?_; (with_reducible refine (op_Told.calls a0 t527 t528 t529 t530 t531 t534 _ A88.out).mono ?_); rintro e w102 ⟨v532, rfl, ho0, hb⟩; refine ⟨_, rfl, ?_⟩; have n0_ := Aside0.mk (Kd.N_elder' (kN HO_482003.out) (by first | exact Kd.N_base ho0 | exact Kd.N_base (Kd.R_N ho0)) hb); have n1_ := Aside0.mk (Kd.N_elder' (kN HO_483003.out) (by first | exact Kd.N_base ho0 | exact Kd.N_base (Kd.R_N ho0)) hb); have n2_ := Aside0.mk (Kd.N_elder' (kN HO_507004.out) (by first | exact Kd.N_base ho0 | exact Kd.N_base (Kd.R_N ho0)) hb); have n3_ := Aside0.mk (Kd.N_elder' (kN HO_525002.out) (by first | exact Kd.N_base ho0 | exact Kd.N_base (Kd.R_N ho0)) hb); have n4_ := Aside0.mk (Kd.N_lower (Kd.N_mono (ok' := fun k_ => some k_ ≠ (.slice Ao12 t472.length co12 : Value).ownBlock ∧ some k_ ≠ (.slice Ao14 t478.length co14 : Value).ownBlock ∧ some k_ ≠ (.slice Ao12 t472.length co12 : Value).ownBlock ∧ some k_ ≠ (.slice Ao84 t520.length co84 : Value).ownBlock ∧ k_ ≠ gb481 ∧ k_ ≠ gb482 ∧ k_ ≠ gb506 ∧ k_ ≠ gb524) (Kd.R_N (Kd.R_bound ho0)) (fun k_ hk_ => ⟨(Kd.fresh' (Kd.N_lt (kN HO_482003.out)) k_ hk_.2.1), (Kd.fresh' (Kd.N_lt (kN HO_483003.out)) k_ hk_.2.1), (Kd.fresh' (Kd.N_lt (kN HO_507004.out)) k_ hk_.2.1), (Kd.fresh' (Kd.N_lt (kN HO_525002.out)) k_ hk_.2.1), (Kd.freshB (rb BK481.out) k_ hk_.2.1), (Kd.freshB (rb BK482.out) k_ hk_.2.1), (Kd.freshB (rb BK506.out) k_ hk_.2.1), (Kd.freshB (rb BK524.out) k_ hk_.2.1)⟩)) (below_size bb)); have n5_ := Aside0.mk (blk_below (rb BK481.out) hb); have n6_ := Aside0.mk (blk_below (rb BK482.out) hb); have n7_ := Aside0.mk (blk_below (rb BK506.out) hb); have n8_ := Aside0.mk (blk_below (rb BK524.out) hb); have n9_ := Aside0.mk (below_step bb hb); clear HO_482003; clear HO_483003; clear HO_507004; clear HO_525002; clear BK481; clear BK482; clear BK506; clear BK524; clear HB; have HO_482003 := n0_; have HO_483003 := n1_; have HO_507004 := n2_; have HO_525002 := n3_; have HO533 := n4_; have BK481 := n5_; have BK482 := n6_; have BK506 := n7_; have BK524 := n8_; have HB := n9_; clear n0_ n1_ n2_ n3_ n4_ n5_ n6_ n7_ n8_ n9_; (try clear hb); (try clear hb2); (try clear hk); (try clear hi); (try clear ho0)) | ((with_reducible refine gate_dst (N := 21) rfl ?_); refine box_event ?hg (N := 21) ?hd (cs := #[.int .i64 0, .int .i64 0, .int .i64 0, .string (⟨#[]⟩ : ByteArray), .slice none 0 0]) (t := 82) ?hr ?_; (case hd => rfl); (case hg => rfl); (case hr => first | (go_simp; done) | (go_simp; rfl)); intro gb535 hg w103 hbox hb; have n0_ := Aside0.mk (Kd.N_below (Kd.N_elderB (kN HO_482003.out) gb535 (Nat.le_of_eq hg.symm)) hb); have n1_ := Aside0.mk (Kd.N_below (Kd.N_elderB (kN HO_483003.out) gb535 (Nat.le_of_eq hg.symm)) hb); have n2_ := Aside0.mk (Kd.N_below (Kd.N_elderB (kN HO_507004.out) gb535 (Nat.le_of_eq hg.symm)) hb); have n3_ := Aside0.mk (Kd.N_below (Kd.N_elderB (kN HO_525002.out) gb535 (Nat.le_of_eq hg.symm)) hb); have n4_ := Aside0.mk (Kd.N_below (Kd.N_elderB (kN HO533.out) gb535 (Nat.le_of_eq hg.symm)) hb); have n5_ := Aside0.mk (blk_below (rb BK481.out) hb); have n6_ := Aside0.mk (blk_below (rb BK482.out) hb); have n7_ := Aside0.mk (blk_below (rb BK506.out) hb); have n8_ := Aside0.mk (blk_below (rb BK524.out) hb); have n9_ := Aside0.mk (below_step bb hb); have n10_ := Aside0.mk (hbox); have n11_ := Aside0.mk ((by rw [hg]; exact (below_size bb) : w.heap.size ≤ gb535)); have n12_ := Aside0.mk ((by rw [hg]; exact (below_size bb) : w.heap.size ≤ gb535)); have n13_ := Aside0.mk ((by rw [hg]; exact Nat.ne_of_lt (blk_lt (rb BK481.out)) : gb481 ≠ gb535)); have n14_ := Aside0.mk ((by rw [hg]; exact Nat.ne_of_gt (blk_lt (rb BK481.out)) : gb535 ≠ gb481)); have n15_ := Aside0.mk ((by rw [hg]; exact Nat.ne_of_lt (blk_lt (rb BK482.out)) : gb482 ≠ gb535)); have n16_ := Aside0.mk ((by rw [hg]; exact Nat.ne_of_gt (blk_lt (rb BK482.out)) : gb535 ≠ gb482)); have n17_ := Aside0.mk ((by rw [hg]; exact Nat.ne_of_lt (blk_lt (rb BK506.out)) : gb506 ≠ gb535)); have n18_ := Aside0.mk ((by rw [hg]; exact Nat.ne_of_gt (blk_lt (rb BK506.out)) : gb535 ≠ gb506)); have n19_ := Aside0.mk ((by rw [hg]; exact Nat.ne_of_lt (blk_lt (rb BK524.out)) : gb524 ≠ gb535)); have n20_ := Aside0.mk ((by rw [hg]; exact Nat.ne_of_gt (blk_lt (rb BK524.out)) : gb535 ≠ gb524)); clear HO_482003; clear HO_483003; clear HO_507004; clear HO_525002; clear HO533; clear BK481; clear BK482; clear BK506; clear BK524; clear HB; have HO_482003 := n0_; have HO_483003 := n1_; have HO_507004 := n2_; have HO_525002 := n3_; have HO533 := n4_; have BK481 := n5_; have BK482 := n6_; have BK506 := n7_; have BK524 := n8_; have HB := n9_; have BK535 := n10_; have GW535 := n11_; have GE535 := n12_; have NB481_535 := n13_; have NB535_481 := n14_; have NB482_535 := n15_; have NB535_482 := n16_; have NB506_535 := n17_; have NB535_506 := n18_; have NB524_535 := n19_; have NB535_524 := n20_; clear n0_ n1_ n2_ n3_ n4_ n5_ n6_ n7_ n8_ n9_ n10_ n11_ n12_ n13_ n14_ n15_ n16_ n17_ n18_ n19_ n20_; clear hb hbox hg; have hnb104 := NB535_481.out; have hnc104 := NB481_535.out; have hnb105 := NB535_482.out; have hnc105 := NB482_535.out; have hnb106 := NB535_506.out; have hnc106 := NB506_535.out; have hnb107 := NB535_524.out; have hnc107 := NB524_535.out; have hcz108_0 : w103.cell? ⟨gb535, 0, none⟩ = some (.int .i64 0) := (blk_cell BK535.out 0).trans rfl; have hcz108_1 : w103.cell? ⟨gb535, 1, none⟩ = some (.int .i64 0) := (blk_cell BK535.out 1).trans rfl; have hcz108_2 : w103.cell? ⟨gb535, 2, none⟩ = some (.int .i64 0) := (blk_cell BK535.out 2).trans rfl; have hcz108_3 : w103.cell? ⟨gb535, 3, none⟩ = some (.string (⟨#[]⟩ : ByteArray)) := (blk_cell BK535.out 3).trans rfl; have hcz108_4 : w103.cell? ⟨gb535, 4, none⟩ = some (.slice none 0 0) := (blk_cell BK535.out 4).trans rfl; have hfz108_0 := blk_frozen BK535.out 0; have hfz108_1 := blk_frozen BK535.out 1; have hfz108_2 := blk_frozen BK535.out 2; have hfz108_3 := blk_frozen BK535.out 3; have hfz108_4 := blk_frozen BK535.out 4; obtain ⟨Ao109, co109, eo109⟩ := Kd.N_slice HO533.out; subst eo109))
            go_ret
            exact ⟨by first | rfl | (simp [errW_none, errW_some] <;> rfl) | (simp [*, errW_none, errW_some] <;> rfl), bb⟩
       ·rw [if_neg c75] at H
        have c75b0 : (t523 == 0) = false := beq_eq_false_iff_ne.mpr c75
        have c75b1 : (t523 != 0) = true := bne_iff_ne.mpr c75
        replace H := Option.bind_eq_some_iff.mp H
        obtain ⟨⟨t537, t538, t539, t540, t541, t544⟩, A1100, H⟩ := H
        replace H : (if t544 = 0 then ((op_Answer_Bytes.f kj46 t537 t538 t539 t540 t541).bind fun t546 => (some (t546.toList == a0.toList))) else (some true)) = some r := H
        have A110 := Aside0.mk A1100
        clear A1100
        by_cases c111 : t544 = 0
        ·rw [if_pos c111] at H
         have c111b0 : (t544 == 0) = true := beq_iff_eq.mpr c111
         have c111b1 : (t544 != 0) = false := bne_eq_false_iff_eq.mpr c111
         clear c111
         replace H := Option.bind_eq_some_iff.mp H
         obtain ⟨t546, A1120, H⟩ := H
         replace H : (some (t546.toList == a0.toList)) = some r := H
         have A112 := Aside0.mk A1120
         clear A1120
         obtain rfl := Option.some.inj H
         go_wp2_with (first | ((with_reducible refine gate_callee (f := 34) rfl ?_); refine goesL_ (some 104) rfl rfl Try.func34 (by kernel_rfl) rfl #[.string a0] rfl (by (try simp only [List.map_toArray, List.map_cons, List.map_nil]); first | done | rfl | (simp only [List.length_drop, List.length_take]; rfl)) ?_; (with_reducible refine (op_Get.calls kj46 a0 t518 t519 t520 t523 _ A74.out).mono ?_); rintro e w113 ⟨v521, rfl, ho0, hb⟩; refine ⟨_, rfl, ?_⟩; have n0_ := Aside0.mk (Kd.N_elder' (kN HO_482003.out) (by first | exact Kd.N_base ho0 | exact Kd.N_base (Kd.R_N ho0)) hb); have n1_ := Aside0.mk (Kd.N_elder' (kN HO_483003.out) (by first | exact Kd.N_base ho0 | exact Kd.N_base (Kd.R_N ho0)) hb); have n2_ := Aside0.mk (Kd.N_elder' (kN HO_507004.out) (by first | exact Kd.N_base ho0 | exact Kd.N_base (Kd.R_N ho0)) hb); have n3_ := Aside0.mk (Kd.N_lower (Kd.N_mono (ok' := fun k_ => some k_ ≠ (.slice Ao12 t472.length co12 : Value).ownBlock ∧ some k_ ≠ (.slice Ao14 t478.length co14 : Value).ownBlock ∧ some k_ ≠ (.slice Ao12 t472.length co12 : Value).ownBlock ∧ k_ ≠ gb481 ∧ k_ ≠ gb482 ∧ k_ ≠ gb506) (Kd.R_N (Kd.R_bound ho0)) (fun k_ hk_ => ⟨(Kd.fresh' (Kd.N_lt (kN HO_482003.out)) k_ hk_.2.1), (Kd.fresh' (Kd.N_lt (kN HO_483003.out)) k_ hk_.2.1), (Kd.fresh' (Kd.N_lt (kN HO_507004.out)) k_ hk_.2.1), (Kd.freshB (rb BK481.out) k_ hk_.2.1), (Kd.freshB (rb BK482.out) k_ hk_.2.1), (Kd.freshB (rb BK506.out) k_ hk_.2.1)⟩)) (below_size bb)); have n4_ := Aside0.mk (blk_below (rb BK481.out) hb); have n5_ := Aside0.mk (blk_below (rb BK482.out) hb); have n6_ := Aside0.mk (blk_below (rb BK506.out) hb); have n7_ := Aside0.mk (below_step bb hb); clear HO_482003; clear HO_483003; clear HO_507004; clear BK481; clear BK482; clear BK506; clear HB; have HO_482003 := n0_; have HO_483003 := n1_; have HO_507004 := n2_; have HO522 := n3_; have BK481 := n4_; have BK482 := n5_; have BK506 := n6_; have HB := n7_; clear n0_ n1_ n2_ n3_ n4_ n5_ n6_ n7_; (try clear hb); (try clear hb2); (try clear hk); (try clear hi); (try clear ho0)) | ((with_reducible refine gate_dst (N := 17) rfl ?_); refine box_event ?hg (N := 17) ?hd (cs := #[.string (⟨#[]⟩ : ByteArray), .int .i64 0, .slice none 0 0]) (t := 75) ?hr ?_; (case hd => rfl); (case hg => rfl); (case hr => first | (go_simp; done) | (go_simp; rfl)); intro gb524 hg w114 hbox hb; have n0_ := Aside0.mk (Kd.N_below (Kd.N_elderB (kN HO_482003.out) gb524 (Nat.le_of_eq hg.symm)) hb); have n1_ := Aside0.mk (Kd.N_below (Kd.N_elderB (kN HO_483003.out) gb524 (Nat.le_of_eq hg.symm)) hb); have n2_ := Aside0.mk (Kd.N_below (Kd.N_elderB (kN HO_507004.out) gb524 (Nat.le_of_eq hg.symm)) hb); have n3_ := Aside0.mk (Kd.N_below (Kd.N_elderB (kN HO522.out) gb524 (Nat.le_of_eq hg.symm)) hb); have n4_ := Aside0.mk (blk_below (rb BK481.out) hb); have n5_ := Aside0.mk (blk_below (rb BK482.out) hb); have n6_ := Aside0.mk (blk_below (rb BK506.out) hb); have n7_ := Aside0.mk (below_step bb hb); have n8_ := Aside0.mk (hbox); have n9_ := Aside0.mk ((by rw [hg]; exact (below_size bb) : w.heap.size ≤ gb524)); have n10_ := Aside0.mk ((by rw [hg]; exact (below_size bb) : w.heap.size ≤ gb524)); have n11_ := Aside0.mk ((by rw [hg]; exact Nat.ne_of_lt (blk_lt (rb BK481.out)) : gb481 ≠ gb524)); have n12_ := Aside0.mk ((by rw [hg]; exact Nat.ne_of_gt (blk_lt (rb BK481.out)) : gb524 ≠ gb481)); have n13_ := Aside0.mk ((by rw [hg]; exact Nat.ne_of_lt (blk_lt (rb BK482.out)) : gb482 ≠ gb524)); have n14_ := Aside0.mk ((by rw [hg]; exact Nat.ne_of_gt (blk_lt (rb BK482.out)) : gb524 ≠ gb482)); have n15_ := Aside0.mk ((by rw [hg]; exact Nat.ne_of_lt (blk_lt (rb BK506.out)) : gb506 ≠ gb524)); have n16_ := Aside0.mk ((by rw [hg]; exact Nat.ne_of_gt (blk_lt (rb BK506.out)) : gb524 ≠ gb506)); clear HO_482003; clear HO_483003; clear HO_507004; clear HO522; clear BK481; clear BK482; clear BK506; clear HB; have HO_482003 := n0_; have HO_483003 := n1_; have HO_507004 := n2_; have HO522 := n3_; have BK481 := n4_; have BK482 := n5_; have BK506 := n6_; have HB := n7_; have BK524 := n8_; have GW524 := n9_; have GE524 := n10_; have NB481_524 := n11_; have NB524_481 := n12_; have NB482_524 := n13_; have NB524_482 := n14_; have NB506_524 := n15_; have NB524_506 := n16_; clear n0_ n1_ n2_ n3_ n4_ n5_ n6_ n7_ n8_ n9_ n10_ n11_ n12_ n13_ n14_ n15_ n16_; clear hb hbox hg; have hnb115 := NB524_481.out; have hnc115 := NB481_524.out; have hnb116 := NB524_482.out; have hnc116 := NB482_524.out; have hnb117 := NB524_506.out; have hnc117 := NB506_524.out; have hcz118_0 : w114.cell? ⟨gb524, 0, none⟩ = some (.string (⟨#[]⟩ : ByteArray)) := (blk_cell BK524.out 0).trans rfl; have hcz118_1 : w114.cell? ⟨gb524, 1, none⟩ = some (.int .i64 0) := (blk_cell BK524.out 1).trans rfl; have hcz118_2 : w114.cell? ⟨gb524, 2, none⟩ = some (.slice none 0 0) := (blk_cell BK524.out 2).trans rfl; have hfz118_0 := blk_frozen BK524.out 0; have hfz118_1 := blk_frozen BK524.out 1; have hfz118_2 := blk_frozen BK524.out 2; obtain ⟨Ao119, co119, eo119⟩ := Kd.N_slice HO522.out; subst eo119) | ((with_reducible refine gate_callee (f := 36) rfl ?_); refine goesL_ (some 123) rfl rfl Try.func36 (by kernel_rfl) rfl #[.string a0] rfl (by (try simp only [List.map_toArray, List.map_cons, List.map_nil]); first | done | rfl | (simp only [List.length_drop, List.length_take]; rfl)) ?_; (with_reducible refine (op_Told.calls a0 t537 t538 t539 t540 t541 t544 _ A110.out).mono ?_); rintro e w120 ⟨v542, rfl, ho0, hb⟩; refine ⟨_, rfl, ?_⟩; have n0_ := Aside0.mk (Kd.N_elder' (kN ((Kd.N_mono (Kd.N_far (p := ⟨gb524, 2, none⟩) (Kd.N_far (p := ⟨gb524, 1, none⟩) (Kd.N_far (p := ⟨gb524, 0, none⟩) (Kd.N_mono HO_482003.out (fun k_ hk => (⟨hk, hk.2⟩ : _ ∧ k_ ≠ gb524))) (fun _ hk => hk.2) (.string t518)) (fun _ hk => hk.2) (.int .i64 t519)) (fun _ hk => hk.2) (.slice Ao119 t520.length co119)) (fun _ h_ => h_.1)))) (by first | exact Kd.N_base ho0 | exact Kd.N_base (Kd.R_N ho0)) hb); have n1_ := Aside0.mk (Kd.N_elder' (kN ((Kd.N_mono (Kd.N_far (p := ⟨gb524, 2, none⟩) (Kd.N_far (p := ⟨gb524, 1, none⟩) (Kd.N_far (p := ⟨gb524, 0, none⟩) (Kd.N_mono HO_483003.out (fun k_ hk => (⟨hk, hk.2⟩ : _ ∧ k_ ≠ gb524))) (fun _ hk => hk.2) (.string t518)) (fun _ hk => hk.2) (.int .i64 t519)) (fun _ hk => hk.2) (.slice Ao119 t520.length co119)) (fun _ h_ => h_.1)))) (by first | exact Kd.N_base ho0 | exact Kd.N_base (Kd.R_N ho0)) hb); have n2_ := Aside0.mk (Kd.N_elder' (kN ((Kd.N_mono (Kd.N_far (p := ⟨gb524, 2, none⟩) (Kd.N_far (p := ⟨gb524, 1, none⟩) (Kd.N_far (p := ⟨gb524, 0, none⟩) (Kd.N_mono HO_507004.out (fun k_ hk => (⟨hk, hk.2⟩ : _ ∧ k_ ≠ gb524))) (fun _ hk => hk.2) (.string t518)) (fun _ hk => hk.2) (.int .i64 t519)) (fun _ hk => hk.2) (.slice Ao119 t520.length co119)) (fun _ h_ => h_.1)))) (by first | exact Kd.N_base ho0 | exact Kd.N_base (Kd.R_N ho0)) hb); have n3_ := Aside0.mk (Kd.N_elder' (kN ((Kd.N_mono (Kd.N_far (p := ⟨gb524, 2, none⟩) (Kd.N_far (p := ⟨gb524, 1, none⟩) (Kd.N_far (p := ⟨gb524, 0, none⟩) (Kd.N_mono HO522.out (fun k_ hk => (⟨hk, hk.2⟩ : _ ∧ k_ ≠ gb524))) (fun _ hk => hk.2) (.string t518)) (fun _ hk => hk.2) (.int .i64 t519)) (fun _ hk => hk.2) (.slice Ao119 t520.length co119)) (fun _ h_ => h_.1)))) (by first | exact Kd.N_base ho0 | exact Kd.N_base (Kd.R_N ho0)) hb); have n4_ := Aside0.mk (Kd.N_lower (Kd.N_mono (ok' := fun k_ => some k_ ≠ (.slice Ao12 t472.length co12 : Value).ownBlock ∧ some k_ ≠ (.slice Ao14 t478.length co14 : Value).ownBlock ∧ some k_ ≠ (.slice Ao12 t472.length co12 : Value).ownBlock ∧ some k_ ≠ (.slice Ao119 t520.length co119 : Value).ownBlock ∧ k_ ≠ gb481 ∧ k_ ≠ gb482 ∧ k_ ≠ gb506 ∧ k_ ≠ gb524) (Kd.R_N (Kd.R_bound ho0)) (fun k_ hk_ => ⟨(Kd.fresh' (Kd.N_lt (kN ((Kd.N_mono (Kd.N_far (p := ⟨gb524, 2, none⟩) (Kd.N_far (p := ⟨gb524, 1, none⟩) (Kd.N_far (p := ⟨gb524, 0, none⟩) (Kd.N_mono HO_482003.out (fun k_ hk => (⟨hk, hk.2⟩ : _ ∧ k_ ≠ gb524))) (fun _ hk => hk.2) (.string t518)) (fun _ hk => hk.2) (.int .i64 t519)) (fun _ hk => hk.2) (.slice Ao119 t520.length co119)) (fun _ h_ => h_.1))))) k_ hk_.2.1), (Kd.fresh' (Kd.N_lt (kN ((Kd.N_mono (Kd.N_far (p := ⟨gb524, 2, none⟩) (Kd.N_far (p := ⟨gb524, 1, none⟩) (Kd.N_far (p := ⟨gb524, 0, none⟩) (Kd.N_mono HO_483003.out (fun k_ hk => (⟨hk, hk.2⟩ : _ ∧ k_ ≠ gb524))) (fun _ hk => hk.2) (.string t518)) (fun _ hk => hk.2) (.int .i64 t519)) (fun _ hk => hk.2) (.slice Ao119 t520.length co119)) (fun _ h_ => h_.1))))) k_ hk_.2.1), (Kd.fresh' (Kd.N_lt (kN ((Kd.N_mono (Kd.N_far (p := ⟨gb524, 2, none⟩) (Kd.N_far (p := ⟨gb524, 1, none⟩) (Kd.N_far (p := ⟨gb524, 0, none⟩) (Kd.N_mono HO_507004.out (fun k_ hk => (⟨hk, hk.2⟩ : _ ∧ k_ ≠ gb524))) (fun _ hk => hk.2) (.string t518)) (fun _ hk => hk.2) (.int .i64 t519)) (fun _ hk => hk.2) (.slice Ao119 t520.length co119)) (fun _ h_ => h_.1))))) k_ hk_.2.1), (Kd.fresh' (Kd.N_lt (kN ((Kd.N_mono (Kd.N_far (p := ⟨gb524, 2, none⟩) (Kd.N_far (p := ⟨gb524, 1, none⟩) (Kd.N_far (p := ⟨gb524, 0, none⟩) (Kd.N_mono HO522.out (fun k_ hk => (⟨hk, hk.2⟩ : _ ∧ k_ ≠ gb524))) (fun _ hk => hk.2) (.string t518)) (fun _ hk => hk.2) (.int .i64 t519)) (fun _ hk => hk.2) (.slice Ao119 t520.length co119)) (fun _ h_ => h_.1))))) k_ hk_.2.1), (Kd.freshB (rb (blk_far (rb (blk_far (rb (blk_far (rb BK481.out) NB481_524.out _)) NB481_524.out _)) NB481_524.out _)) k_ hk_.2.1), (Kd.freshB (rb (blk_far (rb (blk_far (rb (blk_far (rb BK482.out) NB482_524.out _)) NB482_524.out _)) NB482_524.out _)) k_ hk_.2.1), (Kd.freshB (rb (blk_far (rb (blk_far (rb (blk_far (rb BK506.out) NB506_524.out _)) NB506_524.out _)) NB506_524.out _)) k_ hk_.2.1), (Kd.freshB (rb (blk_put (cs := #[.string t518, .int .i64 t519, .slice none 0 0]) (rb (blk_put (cs := #[.string t518, .int .i64 0, .slice none 0 0]) (rb (blk_put (cs := #[.string (⟨#[]⟩ : ByteArray), .int .i64 0, .slice none 0 0]) (rb BK524.out) 0 _ rfl)) 1 _ rfl)) 2 _ rfl)) k_ hk_.2.1)⟩)) (below_size bb)); have n5_ := Aside0.mk (blk_below (rb (blk_far (rb (blk_far (rb (blk_far (rb BK481.out) NB481_524.out _)) NB481_524.out _)) NB481_524.out _)) hb); have n6_ := Aside0.mk (blk_below (rb (blk_far (rb (blk_far (rb (blk_far (rb BK482.out) NB482_524.out _)) NB482_524.out _)) NB482_524.out _)) hb); have n7_ := Aside0.mk (blk_below (rb (blk_far (rb (blk_far (rb (blk_far (rb BK506.out) NB506_524.out _)) NB506_524.out _)) NB506_524.out _)) hb); have n8_ := Aside0.mk (blk_below (rb (blk_put (cs := #[.string t518, .int .i64 t519, .slice none 0 0]) (rb (blk_put (cs := #[.string t518, .int .i64 0, .slice none 0 0]) (rb (blk_put (cs := #[.string (⟨#[]⟩ : ByteArray), .int .i64 0, .slice none 0 0]) (rb BK524.out) 0 _ rfl)) 1 _ rfl)) 2 _ rfl)) hb); have n9_ := Aside0.mk (below_step bb hb); clear HO_482003; clear HO_483003; clear HO_507004; clear HO522; clear BK481; clear BK482; clear BK506; clear BK524; clear HB; have HO_482003 := n0_; have HO_483003 := n1_; have HO_507004 := n2_; have HO522 := n3_; have HO543 := n4_; have BK481 := n5_; have BK482 := n6_; have BK506 := n7_; have BK524 := n8_; have HB := n9_; clear n0_ n1_ n2_ n3_ n4_ n5_ n6_ n7_ n8_ n9_; (try clear hb); (try clear hb2); (try clear hk); (try clear hi); (try clear ho0)) | ((with_reducible refine gate_dst (N := 21) rfl ?_); refine box_event ?hg (N := 21) ?hd (cs := #[.int .i64 0, .int .i64 0, .int .i64 0, .string (⟨#[]⟩ : ByteArray), .slice none 0 0]) (t := 82) ?hr ?_; (case hd => rfl); (case hg => rfl); (case hr => first | (go_simp; done) | (go_simp; rfl)); intro gb545 hg w121 hbox hb; have n0_ := Aside0.mk (Kd.N_below (Kd.N_elderB (kN HO_482003.out) gb545 (Nat.le_of_eq hg.symm)) hb); have n1_ := Aside0.mk (Kd.N_below (Kd.N_elderB (kN HO_483003.out) gb545 (Nat.le_of_eq hg.symm)) hb); have n2_ := Aside0.mk (Kd.N_below (Kd.N_elderB (kN HO_507004.out) gb545 (Nat.le_of_eq hg.symm)) hb); have n3_ := Aside0.mk (Kd.N_below (Kd.N_elderB (kN HO522.out) gb545 (Nat.le_of_eq hg.symm)) hb); have n4_ := Aside0.mk (Kd.N_below (Kd.N_elderB (kN HO543.out) gb545 (Nat.le_of_eq hg.symm)) hb); have n5_ := Aside0.mk (blk_below (rb BK481.out) hb); have n6_ := Aside0.mk (blk_below (rb BK482.out) hb); have n7_ := Aside0.mk (blk_below (rb BK506.out) hb); have n8_ := Aside0.mk (blk_below (rb BK524.out) hb); have n9_ := Aside0.mk (below_step bb hb); have n10_ := Aside0.mk (hbox); have n11_ := Aside0.mk ((by rw [hg]; exact (below_size bb) : w.heap.size ≤ gb545)); have n12_ := Aside0.mk ((by rw [hg]; exact (below_size bb) : w.heap.size ≤ gb545)); have n13_ := Aside0.mk ((by rw [hg]; exact Nat.ne_of_lt (blk_lt (rb BK481.out)) : gb481 ≠ gb545)); have n14_ := Aside0.mk ((by rw [hg]; exact Nat.ne_of_gt (blk_lt (rb BK481.out)) : gb545 ≠ gb481)); have n15_ := Aside0.mk ((by rw [hg]; exact Nat.ne_of_lt (blk_lt (rb BK482.out)) : gb482 ≠ gb545)); have n16_ := Aside0.mk ((by rw [hg]; exact Nat.ne_of_gt (blk_lt (rb BK482.out)) : gb545 ≠ gb482)); have n17_ := Aside0.mk ((by rw [hg]; exact Nat.ne_of_lt (blk_lt (rb BK506.out)) : gb506 ≠ gb545)); have n18_ := Aside0.mk ((by rw [hg]; exact Nat.ne_of_gt (blk_lt (rb BK506.out)) : gb545 ≠ gb506)); have n19_ := Aside0.mk ((by rw [hg]; exact Nat.ne_of_lt (blk_lt (rb BK524.out)) : gb524 ≠ gb545)); have n20_ := Aside0.mk ((by rw [hg]; exact Nat.ne_of_gt (blk_lt (rb BK524.out)) : gb545 ≠ gb524)); clear HO_482003; clear HO_483003; clear HO_507004; clear HO522; clear HO543; clear BK481; clear BK482; clear BK506; clear BK524; clear HB; have HO_482003 := n0_; have HO_483003 := n1_; have HO_507004 := n2_; have HO522 := n3_; have HO543 := n4_; have BK481 := n5_; have BK482 := n6_; have BK506 := n7_; have BK524 := n8_; have HB := n9_; have BK545 := n10_; have GW545 := n11_; have GE545 := n12_; have NB481_545 := n13_; have NB545_481 := n14_; have NB482_545 := n15_; have NB545_482 := n16_; have NB506_545 := n17_; have NB545_506 := n18_; have NB524_545 := n19_; have NB545_524 := n20_; clear n0_ n1_ n2_ n3_ n4_ n5_ n6_ n7_ n8_ n9_ n10_ n11_ n12_ n13_ n14_ n15_ n16_ n17_ n18_ n19_ n20_; clear hb hbox hg; have hnb122 := NB545_481.out; have hnc122 := NB481_545.out; have hnb123 := NB545_482.out; have hnc123 := NB482_545.out; have hnb124 := NB545_506.out; have hnc124 := NB506_545.out; have hnb125 := NB545_524.out; have hnc125 := NB524_545.out; have hcz126_0 : w121.cell? ⟨gb545, 0, none⟩ = some (.int .i64 0) := (blk_cell BK545.out 0).trans rfl; have hcz126_1 : w121.cell? ⟨gb545, 1, none⟩ = some (.int .i64 0) := (blk_cell BK545.out 1).trans rfl; have hcz126_2 : w121.cell? ⟨gb545, 2, none⟩ = some (.int .i64 0) := (blk_cell BK545.out 2).trans rfl; have hcz126_3 : w121.cell? ⟨gb545, 3, none⟩ = some (.string (⟨#[]⟩ : ByteArray)) := (blk_cell BK545.out 3).trans rfl; have hcz126_4 : w121.cell? ⟨gb545, 4, none⟩ = some (.slice none 0 0) := (blk_cell BK545.out 4).trans rfl; have hfz126_0 := blk_frozen BK545.out 0; have hfz126_1 := blk_frozen BK545.out 1; have hfz126_2 := blk_frozen BK545.out 2; have hfz126_3 := blk_frozen BK545.out 3; have hfz126_4 := blk_frozen BK545.out 4; obtain ⟨Ao127, co127, eo127⟩ := Kd.N_slice HO543.out; subst eo127) | ((with_reducible refine gate_store (t := 82) (p := 21) rfl ?_); refine store_event (t := 82) (p := 21) (v := ?vo_w128) (w1 := (((((w121.setCell ⟨gb545, 0, none⟩ (.int .i64 t537)).setCell ⟨gb545, 1, none⟩ (.int .i64 t538)).setCell ⟨gb545, 2, none⟩ (.int .i64 t539)).setCell ⟨gb545, 3, none⟩ (.string t540)).setCell ⟨gb545, 4, none⟩ (.slice Ao127 t541.length co127))) ?hg ?ho ?hn ?hr ?_; (case ho => rfl); (case hg => rfl); (case hn => rfl); (case hr => first | (go_simp; done) | (go_simp; rfl)); intro w128 hw; have n0_ : Aside0 (Kd.N k54 54 w128 w.heap.size (fun k_ => some k_ ≠ (.slice Ao14 t478.length co14 : Value).ownBlock ∧ some k_ ≠ (.slice Ao119 t520.length co119 : Value).ownBlock ∧ some k_ ≠ (.slice Ao127 t541.length co127 : Value).ownBlock ∧ k_ ≠ gb481 ∧ k_ ≠ gb482 ∧ k_ ≠ gb506 ∧ k_ ≠ gb524 ∧ k_ ≠ gb545) (.slice Ao12 t472.length co12) t472) := ⟨(by rw [hw]; exact (kN (Kd.N_mono (Kd.N_far (p := ⟨gb545, 4, none⟩) (Kd.N_far (p := ⟨gb545, 3, none⟩) (Kd.N_far (p := ⟨gb545, 2, none⟩) (Kd.N_far (p := ⟨gb545, 1, none⟩) (Kd.N_far (p := ⟨gb545, 0, none⟩) (Kd.N_mono HO_482003.out (fun k_ hk => (⟨hk, hk.2⟩ : _ ∧ k_ ≠ gb545))) (fun _ hk => hk.2) (.int .i64 t537)) (fun _ hk => hk.2) (.int .i64 t538)) (fun _ hk => hk.2) (.int .i64 t539)) (fun _ hk => hk.2) (.string t540)) (fun _ hk => hk.2) (.slice Ao127 t541.length co127)) (fun _ hk => ⟨hk.1.1.1.1.1.1, ⟨hk.1.1.1.1.2, ⟨hk.1.1.2, ⟨hk.1.1.1.1.1.2.1, ⟨hk.1.1.1.1.1.2.2.1, ⟨hk.1.1.1.1.1.2.2.2, ⟨hk.1.1.1.2, hk.1.2⟩⟩⟩⟩⟩⟩⟩))))⟩; have n1_ : Aside0 (Kd.N k57 57 w128 w.heap.size (fun k_ => some k_ ≠ (.slice Ao12 t472.length co12 : Value).ownBlock ∧ some k_ ≠ (.slice Ao12 t472.length co12 : Value).ownBlock ∧ some k_ ≠ (.slice Ao119 t520.length co119 : Value).ownBlock ∧ some k_ ≠ (.slice Ao127 t541.length co127 : Value).ownBlock ∧ k_ ≠ gb481 ∧ k_ ≠ gb482 ∧ k_ ≠ gb506 ∧ k_ ≠ gb524 ∧ k_ ≠ gb545) (.slice Ao14 t478.length co14) t478) := ⟨(by rw [hw]; exact (kN (Kd.N_mono (Kd.N_far (p := ⟨gb545, 4, none⟩) (Kd.N_far (p := ⟨gb545, 3, none⟩) (Kd.N_far (p := ⟨gb545, 2, none⟩) (Kd.N_far (p := ⟨gb545, 1, none⟩) (Kd.N_far (p := ⟨gb545, 0, none⟩) (Kd.N_mono HO_483003.out (fun k_ hk => (⟨hk, hk.2⟩ : _ ∧ k_ ≠ gb545))) (fun _ hk => hk.2) (.int .i64 t537)) (fun _ hk => hk.2) (.int .i64 t538)) (fun _ hk => hk.2) (.int .i64 t539)) (fun _ hk => hk.2) (.string t540)) (fun _ hk => hk.2) (.slice Ao127 t541.length co127)) (fun _ hk => ⟨hk.1.1.1.1.1.1, ⟨hk.1.1.1.1.1.2.1, ⟨hk.1.1.1.1.2, ⟨hk.1.1.2, ⟨hk.1.1.1.1.1.2.2.1, ⟨hk.1.1.1.1.1.2.2.2.1, ⟨hk.1.1.1.1.1.2.2.2.2, ⟨hk.1.1.1.2, hk.1.2⟩⟩⟩⟩⟩⟩⟩⟩))))⟩; have n2_ : Aside0 (Kd.N k54 54 w128 w.heap.size (fun k_ => some k_ ≠ (.slice Ao14 t478.length co14 : Value).ownBlock ∧ some k_ ≠ (.slice Ao119 t520.length co119 : Value).ownBlock ∧ some k_ ≠ (.slice Ao127 t541.length co127 : Value).ownBlock ∧ k_ ≠ gb481 ∧ k_ ≠ gb482 ∧ k_ ≠ gb506 ∧ k_ ≠ gb524 ∧ k_ ≠ gb545) (.slice Ao12 t472.length co12) t472) := ⟨(by rw [hw]; exact (kN (Kd.N_mono (Kd.N_far (p := ⟨gb545, 4, none⟩) (Kd.N_far (p := ⟨gb545, 3, none⟩) (Kd.N_far (p := ⟨gb545, 2, none⟩) (Kd.N_far (p := ⟨gb545, 1, none⟩) (Kd.N_far (p := ⟨gb545, 0, none⟩) (Kd.N_mono HO_507004.out (fun k_ hk => (⟨hk, hk.2⟩ : _ ∧ k_ ≠ gb545))) (fun _ hk => hk.2) (.int .i64 t537)) (fun _ hk => hk.2) (.int .i64 t538)) (fun _ hk => hk.2) (.int .i64 t539)) (fun _ hk => hk.2) (.string t540)) (fun _ hk => hk.2) (.slice Ao127 t541.length co127)) (fun _ hk => ⟨hk.1.1.1.1.1.1, ⟨hk.1.1.1.1.2, ⟨hk.1.1.2, ⟨hk.1.1.1.1.1.2.1, ⟨hk.1.1.1.1.1.2.2.1, ⟨hk.1.1.1.1.1.2.2.2, ⟨hk.1.1.1.2, hk.1.2⟩⟩⟩⟩⟩⟩⟩))))⟩; have n3_ : Aside0 (Kd.N k54 54 w128 w.heap.size (fun k_ => some k_ ≠ (.slice Ao12 t472.length co12 : Value).ownBlock ∧ some k_ ≠ (.slice Ao14 t478.length co14 : Value).ownBlock ∧ some k_ ≠ (.slice Ao12 t472.length co12 : Value).ownBlock ∧ some k_ ≠ (.slice Ao127 t541.length co127 : Value).ownBlock ∧ k_ ≠ gb481 ∧ k_ ≠ gb482 ∧ k_ ≠ gb506 ∧ k_ ≠ gb524 ∧ k_ ≠ gb545) (.slice Ao119 t520.length co119) t520) := ⟨(by rw [hw]; exact (kN (Kd.N_mono (Kd.N_far (p := ⟨gb545, 4, none⟩) (Kd.N_far (p := ⟨gb545, 3, none⟩) (Kd.N_far (p := ⟨gb545, 2, none⟩) (Kd.N_far (p := ⟨gb545, 1, none⟩) (Kd.N_far (p := ⟨gb545, 0, none⟩) (Kd.N_mono HO522.out (fun k_ hk => (⟨hk, hk.2⟩ : _ ∧ k_ ≠ gb545))) (fun _ hk => hk.2) (.int .i64 t537)) (fun _ hk => hk.2) (.int .i64 t538)) (fun _ hk => hk.2) (.int .i64 t539)) (fun _ hk => hk.2) (.string t540)) (fun _ hk => hk.2) (.slice Ao127 t541.length co127)) (fun _ hk => ⟨hk.1.1.1.1.1, ⟨hk.1.1.1.1.2.1, ⟨hk.1.1.1.1.2.2.1, ⟨hk.1.1.2, ⟨hk.1.1.1.1.2.2.2.1, ⟨hk.1.1.1.1.2.2.2.2.1, ⟨hk.1.1.1.1.2.2.2.2.2, ⟨hk.1.1.1.2, hk.1.2⟩⟩⟩⟩⟩⟩⟩⟩))))⟩; have n4_ : Aside0 (Kd.N k54 54 w128 w.heap.size (fun k_ => some k_ ≠ (.slice Ao12 t472.length co12 : Value).ownBlock ∧ some k_ ≠ (.slice Ao14 t478.length co14 : Value).ownBlock ∧ some k_ ≠ (.slice Ao12 t472.length co12 : Value).ownBlock ∧ some k_ ≠ (.slice Ao119 t520.length co119 : Value).ownBlock ∧ k_ ≠ gb481 ∧ k_ ≠ gb482 ∧ k_ ≠ gb506 ∧ k_ ≠ gb524 ∧ k_ ≠ gb545) (.slice Ao127 t541.length co127) t541) := ⟨(by rw [hw]; exact (kN (Kd.N_mono (Kd.N_far (p := ⟨gb545, 4, none⟩) (Kd.N_far (p := ⟨gb545, 3, none⟩) (Kd.N_far (p := ⟨gb545, 2, none⟩) (Kd.N_far (p := ⟨gb545, 1, none⟩) (Kd.N_far (p := ⟨gb545, 0, none⟩) (Kd.N_mono HO543.out (fun k_ hk => (⟨hk, hk.2⟩ : _ ∧ k_ ≠ gb545))) (fun _ hk => hk.2) (.int .i64 t537)) (fun _ hk => hk.2) (.int .i64 t538)) (fun _ hk => hk.2) (.int .i64 t539)) (fun _ hk => hk.2) (.string t540)) (fun _ hk => hk.2) (.slice Ao127 t541.length co127)) (fun _ hk => ⟨hk.1.1.1, ⟨hk.1.1.2.1, ⟨hk.1.1.2.2.1, ⟨hk.1.1.2.2.2.1, ⟨hk.1.1.2.2.2.2.1, ⟨hk.1.1.2.2.2.2.2.1, ⟨hk.1.1.2.2.2.2.2.2.1, ⟨hk.1.1.2.2.2.2.2.2.2, hk.1.2⟩⟩⟩⟩⟩⟩⟩⟩))))⟩; have n5_ : Aside0 (w128.heap[gb481]? = some (.cells #[.int .i64 t469, .int .i64 t470, .string t471, .slice Ao12 t472.length co12] 54 (0, 0))) := ⟨(by rw [hw]; exact (rb (blk_far (rb (blk_far (rb (blk_far (rb (blk_far (rb (blk_far (rb BK481.out) NB481_545.out _)) NB481_545.out _)) NB481_545.out _)) NB481_545.out _)) NB481_545.out _)))⟩; have n6_ : Aside0 (w128.heap[gb482]? = some (.cells #[.int .i64 t475, .int .i64 t476, .string t477, .slice Ao14 t478.length co14] 57 (0, 0))) := ⟨(by rw [hw]; exact (rb (blk_far (rb (blk_far (rb (blk_far (rb (blk_far (rb (blk_far (rb BK482.out) NB482_545.out _)) NB482_545.out _)) NB482_545.out _)) NB482_545.out _)) NB482_545.out _)))⟩; have n7_ : Aside0 (w128.heap[gb506]? = some (.cells #[.int .i64 24, .int .i64 t469, .int .i64 t470, .string t471, .slice Ao12 t472.length co12] 82 (0, 0))) := ⟨(by rw [hw]; exact (rb (blk_far (rb (blk_far (rb (blk_far (rb (blk_far (rb (blk_far (rb BK506.out) NB506_545.out _)) NB506_545.out _)) NB506_545.out _)) NB506_545.out _)) NB506_545.out _)))⟩; have n8_ : Aside0 (w128.heap[gb524]? = some (.cells #[.string t518, .int .i64 t519, .slice Ao119 t520.length co119] 75 (0, 0))) := ⟨(by rw [hw]; exact (rb (blk_far (rb (blk_far (rb (blk_far (rb (blk_far (rb (blk_far (rb BK524.out) NB524_545.out _)) NB524_545.out _)) NB524_545.out _)) NB524_545.out _)) NB524_545.out _)))⟩; have n9_ : Aside0 (w128.heap[gb545]? = some (.cells #[.int .i64 t537, .int .i64 t538, .int .i64 t539, .string t540, .slice Ao127 t541.length co127] 82 (0, 0))) := ⟨(by rw [hw]; exact (rb (blk_put (cs := #[.int .i64 t537, .int .i64 t538, .int .i64 t539, .string t540, .slice none 0 0]) (rb (blk_put (cs := #[.int .i64 t537, .int .i64 t538, .int .i64 t539, .string (⟨#[]⟩ : ByteArray), .slice none 0 0]) (rb (blk_put (cs := #[.int .i64 t537, .int .i64 t538, .int .i64 0, .string (⟨#[]⟩ : ByteArray), .slice none 0 0]) (rb (blk_put (cs := #[.int .i64 t537, .int .i64 0, .int .i64 0, .string (⟨#[]⟩ : ByteArray), .slice none 0 0]) (rb (blk_put (cs := #[.int .i64 0, .int .i64 0, .int .i64 0, .string (⟨#[]⟩ : ByteArray), .slice none 0 0]) (rb BK545.out) 0 _ rfl)) 1 _ rfl)) 2 _ rfl)) 3 _ rfl)) 4 _ rfl)))⟩; have n10_ : Aside0 (Below w.heap.size w w128) := ⟨(by rw [hw]; exact bb)⟩; clear hw; clear HO_482003; clear HO_483003; clear HO_507004; clear HO522; clear HO543; clear BK481; clear BK482; clear BK506; clear BK524; clear BK545; clear HB; have HO_482003 := n0_; have HO_483003 := n1_; have HO_507004 := n2_; have HO522 := n3_; have HO543 := n4_; have BK481 := n5_; have BK482 := n6_; have BK506 := n7_; have BK524 := n8_; have BK545 := n9_; have HB := n10_; clear n0_ n1_ n2_ n3_ n4_ n5_ n6_ n7_ n8_ n9_ n10_; have hcz129_0 : w128.cell? ⟨gb545, 0, none⟩ = some (.int .i64 t537) := (blk_cell BK545.out 0).trans rfl; have hcz129_1 : w128.cell? ⟨gb545, 1, none⟩ = some (.int .i64 t538) := (blk_cell BK545.out 1).trans rfl; have hcz129_2 : w128.cell? ⟨gb545, 2, none⟩ = some (.int .i64 t539) := (blk_cell BK545.out 2).trans rfl; have hcz129_3 : w128.cell? ⟨gb545, 3, none⟩ = some (.string t540) := (blk_cell BK545.out 3).trans rfl; have hcz129_4 : w128.cell? ⟨gb545, 4, none⟩ = some (.slice Ao127 t541.length co127) := (blk_cell BK545.out 4).trans rfl; have hfz129_0 := blk_frozen BK545.out 0; have hfz129_1 := blk_frozen BK545.out 1; have hfz129_2 := blk_frozen BK545.out 2; have hfz129_3 := blk_frozen BK545.out 3; have hfz129_4 := blk_frozen BK545.out 4) | (go_at_call 32; (with_reducible refine (op_Answer_Bytes.calls kj46 t537 t538 t539 t540 (fun k_ => (some k_ ≠ (.slice Ao12 t472.length co12 : Value).ownBlock ∧ (some k_ ≠ (.slice Ao14 t478.length co14 : Value).ownBlock ∧ (some k_ ≠ (.slice Ao12 t472.length co12 : Value).ownBlock ∧ (some k_ ≠ (.slice Ao119 t520.length co119 : Value).ownBlock ∧ (k_ ≠ gb481 ∧ (k_ ≠ gb482 ∧ (k_ ≠ gb506 ∧ (k_ ≠ gb524 ∧ k_ ≠ gb545))))))))) _ _ t541 t546 _ ?side1 A112.out).mono ?_); (case side1 => exact Kd.N_V (HO543.out)); rintro e w130 ⟨rfl, hb⟩; have n0_ := Aside0.mk (Kd.N_below (kN HO_482003.out) hb); have n1_ := Aside0.mk (Kd.N_below (kN HO_483003.out) hb); have n2_ := Aside0.mk (Kd.N_below (kN HO_507004.out) hb); have n3_ := Aside0.mk (Kd.N_below (kN HO522.out) hb); have n4_ := Aside0.mk (Kd.N_below (kN HO543.out) hb); have n5_ := Aside0.mk (blk_below (rb BK481.out) hb); have n6_ := Aside0.mk (blk_below (rb BK482.out) hb); have n7_ := Aside0.mk (blk_below (rb BK506.out) hb); have n8_ := Aside0.mk (blk_below (rb BK524.out) hb); have n9_ := Aside0.mk (blk_below (rb BK545.out) hb); have n10_ := Aside0.mk (below_step bb hb); clear HO_482003; clear HO_483003; clear HO_507004; clear HO522; clear HO543; clear BK481; clear BK482; clear BK506; clear BK524; clear BK545; clear HB; have HO_482003 := n0_; have HO_483003 := n1_; have HO_507004 := n2_; have HO522 := n3_; have HO543 := n4_; have BK481 := n5_; have BK482 := n6_; have BK506 := n7_; have BK524 := n8_; have BK545 := n9_; have HB := n10_; clear n0_ n1_ n2_ n3_ n4_ n5_ n6_ n7_ n8_ n9_ n10_; (try clear hb); (try clear hb2); (try clear hk); (try clear hi)))
         go_ret
         exact ⟨by first | rfl | (simp [errW_none, errW_some] <;> rfl) | (simp [*, errW_none, errW_some] <;> rfl), bb⟩
        ·rw [if_neg c111] at H
         have c111b0 : (t544 == 0) = false := beq_eq_false_iff_ne.mpr c111
         have c111b1 : (t544 != 0) = true := bne_iff_ne.mpr c111
         obtain rfl := Option.some.inj H
         go_wp2_with (first | ((with_reducible refine gate_callee (f := 34) rfl ?_); refine goesL_ (some 104) rfl rfl Try.func34 (by kernel_rfl) rfl #[.string a0] rfl (by (try simp only [List.map_toArray, List.map_cons, List.map_nil]); first | done | rfl | (simp only [List.length_drop, List.length_take]; rfl)) ?_; (with_reducible refine (op_Get.calls kj46 a0 t518 t519 t520 t523 _ A74.out).mono ?_); rintro e w131 ⟨v521, rfl, ho0, hb⟩; refine ⟨_, rfl, ?_⟩; have n0_ := Aside0.mk (Kd.N_elder' (kN HO_482003.out) (by first | exact Kd.N_base ho0 | exact Kd.N_base (Kd.R_N ho0)) hb); have n1_ := Aside0.mk (Kd.N_elder' (kN HO_483003.out) (by first | exact Kd.N_base ho0 | exact Kd.N_base (Kd.R_N ho0)) hb); have n2_ := Aside0.mk (Kd.N_elder' (kN HO_507004.out) (by first | exact Kd.N_base ho0 | exact Kd.N_base (Kd.R_N ho0)) hb); have n3_ := Aside0.mk (Kd.N_lower (Kd.N_mono (ok' := fun k_ => some k_ ≠ (.slice Ao12 t472.length co12 : Value).ownBlock ∧ some k_ ≠ (.slice Ao14 t478.length co14 : Value).ownBlock ∧ some k_ ≠ (.slice Ao12 t472.length co12 : Value).ownBlock ∧ k_ ≠ gb481 ∧ k_ ≠ gb482 ∧ k_ ≠ gb506) (Kd.R_N (Kd.R_bound ho0)) (fun k_ hk_ => ⟨(Kd.fresh' (Kd.N_lt (kN HO_482003.out)) k_ hk_.2.1), (Kd.fresh' (Kd.N_lt (kN HO_483003.out)) k_ hk_.2.1), (Kd.fresh' (Kd.N_lt (kN HO_507004.out)) k_ hk_.2.1), (Kd.freshB (rb BK481.out) k_ hk_.2.1), (Kd.freshB (rb BK482.out) k_ hk_.2.1), (Kd.freshB (rb BK506.out) k_ hk_.2.1)⟩)) (below_size bb)); have n4_ := Aside0.mk (blk_below (rb BK481.out) hb); have n5_ := Aside0.mk (blk_below (rb BK482.out) hb); have n6_ := Aside0.mk (blk_below (rb BK506.out) hb); have n7_ := Aside0.mk (below_step bb hb); clear HO_482003; clear HO_483003; clear HO_507004; clear BK481; clear BK482; clear BK506; clear HB; have HO_482003 := n0_; have HO_483003 := n1_; have HO_507004 := n2_; have HO522 := n3_; have BK481 := n4_; have BK482 := n5_; have BK506 := n6_; have HB := n7_; clear n0_ n1_ n2_ n3_ n4_ n5_ n6_ n7_; (try clear hb); (try clear hb2); (try clear hk); (try clear hi); (try clear ho0)) | ((with_reducible refine gate_dst (N := 17) rfl ?_); refine box_event ?hg (N := 17) ?hd (cs := #[.string (⟨#[]⟩ : ByteArray), .int .i64 0, .slice none 0 0]) (t := 75) ?hr ?_; (case hd => rfl); (case hg => rfl); (case hr => first | (go_simp; done) | (go_simp; rfl)); intro gb524 hg w132 hbox hb; have n0_ := Aside0.mk (Kd.N_below (Kd.N_elderB (kN HO_482003.out) gb524 (Nat.le_of_eq hg.symm)) hb); have n1_ := Aside0.mk (Kd.N_below (Kd.N_elderB (kN HO_483003.out) gb524 (Nat.le_of_eq hg.symm)) hb); have n2_ := Aside0.mk (Kd.N_below (Kd.N_elderB (kN HO_507004.out) gb524 (Nat.le_of_eq hg.symm)) hb); have n3_ := Aside0.mk (Kd.N_below (Kd.N_elderB (kN HO522.out) gb524 (Nat.le_of_eq hg.symm)) hb); have n4_ := Aside0.mk (blk_below (rb BK481.out) hb); have n5_ := Aside0.mk (blk_below (rb BK482.out) hb); have n6_ := Aside0.mk (blk_below (rb BK506.out) hb); have n7_ := Aside0.mk (below_step bb hb); have n8_ := Aside0.mk (hbox); have n9_ := Aside0.mk ((by rw [hg]; exact (below_size bb) : w.heap.size ≤ gb524)); have n10_ := Aside0.mk ((by rw [hg]; exact (below_size bb) : w.heap.size ≤ gb524)); have n11_ := Aside0.mk ((by rw [hg]; exact Nat.ne_of_lt (blk_lt (rb BK481.out)) : gb481 ≠ gb524)); have n12_ := Aside0.mk ((by rw [hg]; exact Nat.ne_of_gt (blk_lt (rb BK481.out)) : gb524 ≠ gb481)); have n13_ := Aside0.mk ((by rw [hg]; exact Nat.ne_of_lt (blk_lt (rb BK482.out)) : gb482 ≠ gb524)); have n14_ := Aside0.mk ((by rw [hg]; exact Nat.ne_of_gt (blk_lt (rb BK482.out)) : gb524 ≠ gb482)); have n15_ := Aside0.mk ((by rw [hg]; exact Nat.ne_of_lt (blk_lt (rb BK506.out)) : gb506 ≠ gb524)); have n16_ := Aside0.mk ((by rw [hg]; exact Nat.ne_of_gt (blk_lt (rb BK506.out)) : gb524 ≠ gb506)); clear HO_482003; clear HO_483003; clear HO_507004; clear HO522; clear BK481; clear BK482; clear BK506; clear HB; have HO_482003 := n0_; have HO_483003 := n1_; have HO_507004 := n2_; have HO522 := n3_; have BK481 := n4_; have BK482 := n5_; have BK506 := n6_; have HB := n7_; have BK524 := n8_; have GW524 := n9_; have GE524 := n10_; have NB481_524 := n11_; have NB524_481 := n12_; have NB482_524 := n13_; have NB524_482 := n14_; have NB506_524 := n15_; have NB524_506 := n16_; clear n0_ n1_ n2_ n3_ n4_ n5_ n6_ n7_ n8_ n9_ n10_ n11_ n12_ n13_ n14_ n15_ n16_; clear hb hbox hg; have hnb133 := NB524_481.out; have hnc133 := NB481_524.out; have hnb134 := NB524_482.out; have hnc134 := NB482_524.out; have hnb135 := NB524_506.out; have hnc135 := NB506_524.out; have hcz136_0 : w132.cell? ⟨gb524, 0, none⟩ = some (.string (⟨#[]⟩ : ByteArray)) := (blk_cell BK524.out 0).trans rfl; have hcz136_1 : w132.cell? ⟨gb524, 1, none⟩ = some (.int .i64 0) := (blk_cell BK524.out 1).trans rfl; have hcz136_2 : w132.cell? ⟨gb524, 2, none⟩ = some (.slice none 0 0) := (blk_cell BK524.out 2).trans rfl; have hfz136_0 := blk_frozen BK524.out 0; have hfz136_1 := blk_frozen BK524.out 1; have hfz136_2 := blk_frozen BK524.out 2; obtain ⟨Ao137, co137, eo137⟩ := Kd.N_slice HO522.out; subst eo137) | ((with_reducible refine gate_callee (f := 36) rfl ?_); refine goesL_ (some 123) rfl rfl Try.func36 (by kernel_rfl) rfl #[.string a0] rfl (by (try simp only [List.map_toArray, List.map_cons, List.map_nil]); first | done | rfl | (simp only [List.length_drop, List.length_take]; rfl)) ?_; (with_reducible refine (op_Told.calls a0 t537 t538 t539 t540 t541 t544 _ A110.out).mono ?_); rintro e w138 ⟨v542, rfl, ho0, hb⟩; refine ⟨_, rfl, ?_⟩; have n0_ := Aside0.mk (Kd.N_elder' (kN ((Kd.N_mono (Kd.N_far (p := ⟨gb524, 2, none⟩) (Kd.N_far (p := ⟨gb524, 1, none⟩) (Kd.N_far (p := ⟨gb524, 0, none⟩) (Kd.N_mono HO_482003.out (fun k_ hk => (⟨hk, hk.2⟩ : _ ∧ k_ ≠ gb524))) (fun _ hk => hk.2) (.string t518)) (fun _ hk => hk.2) (.int .i64 t519)) (fun _ hk => hk.2) (.slice Ao137 t520.length co137)) (fun _ h_ => h_.1)))) (by first | exact Kd.N_base ho0 | exact Kd.N_base (Kd.R_N ho0)) hb); have n1_ := Aside0.mk (Kd.N_elder' (kN ((Kd.N_mono (Kd.N_far (p := ⟨gb524, 2, none⟩) (Kd.N_far (p := ⟨gb524, 1, none⟩) (Kd.N_far (p := ⟨gb524, 0, none⟩) (Kd.N_mono HO_483003.out (fun k_ hk => (⟨hk, hk.2⟩ : _ ∧ k_ ≠ gb524))) (fun _ hk => hk.2) (.string t518)) (fun _ hk => hk.2) (.int .i64 t519)) (fun _ hk => hk.2) (.slice Ao137 t520.length co137)) (fun _ h_ => h_.1)))) (by first | exact Kd.N_base ho0 | exact Kd.N_base (Kd.R_N ho0)) hb); have n2_ := Aside0.mk (Kd.N_elder' (kN ((Kd.N_mono (Kd.N_far (p := ⟨gb524, 2, none⟩) (Kd.N_far (p := ⟨gb524, 1, none⟩) (Kd.N_far (p := ⟨gb524, 0, none⟩) (Kd.N_mono HO_507004.out (fun k_ hk => (⟨hk, hk.2⟩ : _ ∧ k_ ≠ gb524))) (fun _ hk => hk.2) (.string t518)) (fun _ hk => hk.2) (.int .i64 t519)) (fun _ hk => hk.2) (.slice Ao137 t520.length co137)) (fun _ h_ => h_.1)))) (by first | exact Kd.N_base ho0 | exact Kd.N_base (Kd.R_N ho0)) hb); have n3_ := Aside0.mk (Kd.N_elder' (kN ((Kd.N_mono (Kd.N_far (p := ⟨gb524, 2, none⟩) (Kd.N_far (p := ⟨gb524, 1, none⟩) (Kd.N_far (p := ⟨gb524, 0, none⟩) (Kd.N_mono HO522.out (fun k_ hk => (⟨hk, hk.2⟩ : _ ∧ k_ ≠ gb524))) (fun _ hk => hk.2) (.string t518)) (fun _ hk => hk.2) (.int .i64 t519)) (fun _ hk => hk.2) (.slice Ao137 t520.length co137)) (fun _ h_ => h_.1)))) (by first | exact Kd.N_base ho0 | exact Kd.N_base (Kd.R_N ho0)) hb); have n4_ := Aside0.mk (Kd.N_lower (Kd.N_mono (ok' := fun k_ => some k_ ≠ (.slice Ao12 t472.length co12 : Value).ownBlock ∧ some k_ ≠ (.slice Ao14 t478.length co14 : Value).ownBlock ∧ some k_ ≠ (.slice Ao12 t472.length co12 : Value).ownBlock ∧ some k_ ≠ (.slice Ao137 t520.length co137 : Value).ownBlock ∧ k_ ≠ gb481 ∧ k_ ≠ gb482 ∧ k_ ≠ gb506 ∧ k_ ≠ gb524) (Kd.R_N (Kd.R_bound ho0)) (fun k_ hk_ => ⟨(Kd.fresh' (Kd.N_lt (kN ((Kd.N_mono (Kd.N_far (p := ⟨gb524, 2, none⟩) (Kd.N_far (p := ⟨gb524, 1, none⟩) (Kd.N_far (p := ⟨gb524, 0, none⟩) (Kd.N_mono HO_482003.out (fun k_ hk => (⟨hk, hk.2⟩ : _ ∧ k_ ≠ gb524))) (fun _ hk => hk.2) (.string t518)) (fun _ hk => hk.2) (.int .i64 t519)) (fun _ hk => hk.2) (.slice Ao137 t520.length co137)) (fun _ h_ => h_.1))))) k_ hk_.2.1), (Kd.fresh' (Kd.N_lt (kN ((Kd.N_mono (Kd.N_far (p := ⟨gb524, 2, none⟩) (Kd.N_far (p := ⟨gb524, 1, none⟩) (Kd.N_far (p := ⟨gb524, 0, none⟩) (Kd.N_mono HO_483003.out (fun k_ hk => (⟨hk, hk.2⟩ : _ ∧ k_ ≠ gb524))) (fun _ hk => hk.2) (.string t518)) (fun _ hk => hk.2) (.int .i64 t519)) (fun _ hk => hk.2) (.slice Ao137 t520.length co137)) (fun _ h_ => h_.1))))) k_ hk_.2.1), (Kd.fresh' (Kd.N_lt (kN ((Kd.N_mono (Kd.N_far (p := ⟨gb524, 2, none⟩) (Kd.N_far (p := ⟨gb524, 1, none⟩) (Kd.N_far (p := ⟨gb524, 0, none⟩) (Kd.N_mono HO_507004.out (fun k_ hk => (⟨hk, hk.2⟩ : _ ∧ k_ ≠ gb524))) (fun _ hk => hk.2) (.string t518)) (fun _ hk => hk.2) (.int .i64 t519)) (fun _ hk => hk.2) (.slice Ao137 t520.length co137)) (fun _ h_ => h_.1))))) k_ hk_.2.1), (Kd.fresh' (Kd.N_lt (kN ((Kd.N_mono (Kd.N_far (p := ⟨gb524, 2, none⟩) (Kd.N_far (p := ⟨gb524, 1, none⟩) (Kd.N_far (p := ⟨gb524, 0, none⟩) (Kd.N_mono HO522.out (fun k_ hk => (⟨hk, hk.2⟩ : _ ∧ k_ ≠ gb524))) (fun _ hk => hk.2) (.string t518)) (fun _ hk => hk.2) (.int .i64 t519)) (fun _ hk => hk.2) (.slice Ao137 t520.length co137)) (fun _ h_ => h_.1))))) k_ hk_.2.1), (Kd.freshB (rb (blk_far (rb (blk_far (rb (blk_far (rb BK481.out) NB481_524.out _)) NB481_524.out _)) NB481_524.out _)) k_ hk_.2.1), (Kd.freshB (rb (blk_far (rb (blk_far (rb (blk_far (rb BK482.out) NB482_524.out _)) NB482_524.out _)) NB482_524.out _)) k_ hk_.2.1), (Kd.freshB (rb (blk_far (rb (blk_far (rb (blk_far (rb BK506.out) NB506_524.out _)) NB506_524.out _)) NB506_524.out _)) k_ hk_.2.1), (Kd.freshB (rb (blk_put (cs := #[.string t518, .int .i64 t519, .slice none 0 0]) (rb (blk_put (cs := #[.string t518, .int .i64 0, .slice none 0 0]) (rb (blk_put (cs := #[.string (⟨#[]⟩ : ByteArray), .int .i64 0, .slice none 0 0]) (rb BK524.out) 0 _ rfl)) 1 _ rfl)) 2 _ rfl)) k_ hk_.2.1)⟩)) (below_size bb)); have n5_ := Aside0.mk (blk_below (rb (blk_far (rb (blk_far (rb (blk_far (rb BK481.out) NB481_524.out _)) NB481_524.out _)) NB481_524.out _)) hb); have n6_ := Aside0.mk (blk_below (rb (blk_far (rb (blk_far (rb (blk_far (rb BK482.out) NB482_524.out _)) NB482_524.out _)) NB482_524.out _)) hb); have n7_ := Aside0.mk (blk_below (rb (blk_far (rb (blk_far (rb (blk_far (rb BK506.out) NB506_524.out _)) NB506_524.out _)) NB506_524.out _)) hb); have n8_ := Aside0.mk (blk_below (rb (blk_put (cs := #[.string t518, .int .i64 t519, .slice none 0 0]) (rb (blk_put (cs := #[.string t518, .int .i64 0, .slice none 0 0]) (rb (blk_put (cs := #[.string (⟨#[]⟩ : ByteArray), .int .i64 0, .slice none 0 0]) (rb BK524.out) 0 _ rfl)) 1 _ rfl)) 2 _ rfl)) hb); have n9_ := Aside0.mk (below_step bb hb); clear HO_482003; clear HO_483003; clear HO_507004; clear HO522; clear BK481; clear BK482; clear BK506; clear BK524; clear HB; have HO_482003 := n0_; have HO_483003 := n1_; have HO_507004 := n2_; have HO522 := n3_; have HO543 := n4_; have BK481 := n5_; have BK482 := n6_; have BK506 := n7_; have BK524 := n8_; have HB := n9_; clear n0_ n1_ n2_ n3_ n4_ n5_ n6_ n7_ n8_ n9_; (try clear hb); (try clear hb2); (try clear hk); (try clear hi); (try clear ho0)) | ((with_reducible refine gate_dst (N := 21) rfl ?_); refine box_event ?hg (N := 21) ?hd (cs := #[.int .i64 0, .int .i64 0, .int .i64 0, .string (⟨#[]⟩ : ByteArray), .slice none 0 0]) (t := 82) ?hr ?_; (case hd => rfl); (case hg => rfl); (case hr => first | (go_simp; done) | (go_simp; rfl)); intro gb545 hg w139 hbox hb; have n0_ := Aside0.mk (Kd.N_below (Kd.N_elderB (kN HO_482003.out) gb545 (Nat.le_of_eq hg.symm)) hb); have n1_ := Aside0.mk (Kd.N_below (Kd.N_elderB (kN HO_483003.out) gb545 (Nat.le_of_eq hg.symm)) hb); have n2_ := Aside0.mk (Kd.N_below (Kd.N_elderB (kN HO_507004.out) gb545 (Nat.le_of_eq hg.symm)) hb); have n3_ := Aside0.mk (Kd.N_below (Kd.N_elderB (kN HO522.out) gb545 (Nat.le_of_eq hg.symm)) hb); have n4_ := Aside0.mk (Kd.N_below (Kd.N_elderB (kN HO543.out) gb545 (Nat.le_of_eq hg.symm)) hb); have n5_ := Aside0.mk (blk_below (rb BK481.out) hb); have n6_ := Aside0.mk (blk_below (rb BK482.out) hb); have n7_ := Aside0.mk (blk_below (rb BK506.out) hb); have n8_ := Aside0.mk (blk_below (rb BK524.out) hb); have n9_ := Aside0.mk (below_step bb hb); have n10_ := Aside0.mk (hbox); have n11_ := Aside0.mk ((by rw [hg]; exact (below_size bb) : w.heap.size ≤ gb545)); have n12_ := Aside0.mk ((by rw [hg]; exact (below_size bb) : w.heap.size ≤ gb545)); have n13_ := Aside0.mk ((by rw [hg]; exact Nat.ne_of_lt (blk_lt (rb BK481.out)) : gb481 ≠ gb545)); have n14_ := Aside0.mk ((by rw [hg]; exact Nat.ne_of_gt (blk_lt (rb BK481.out)) : gb545 ≠ gb481)); have n15_ := Aside0.mk ((by rw [hg]; exact Nat.ne_of_lt (blk_lt (rb BK482.out)) : gb482 ≠ gb545)); have n16_ := Aside0.mk ((by rw [hg]; exact Nat.ne_of_gt (blk_lt (rb BK482.out)) : gb545 ≠ gb482)); have n17_ := Aside0.mk ((by rw [hg]; exact Nat.ne_of_lt (blk_lt (rb BK506.out)) : gb506 ≠ gb545)); have n18_ := Aside0.mk ((by rw [hg]; exact Nat.ne_of_gt (blk_lt (rb BK506.out)) : gb545 ≠ gb506)); have n19_ := Aside0.mk ((by rw [hg]; exact Nat.ne_of_lt (blk_lt (rb BK524.out)) : gb524 ≠ gb545)); have n20_ := Aside0.mk ((by rw [hg]; exact Nat.ne_of_gt (blk_lt (rb BK524.out)) : gb545 ≠ gb524)); clear HO_482003; clear HO_483003; clear HO_507004; clear HO522; clear HO543; clear BK481; clear BK482; clear BK506; clear BK524; clear HB; have HO_482003 := n0_; have HO_483003 := n1_; have HO_507004 := n2_; have HO522 := n3_; have HO543 := n4_; have BK481 := n5_; have BK482 := n6_; have BK506 := n7_; have BK524 := n8_; have HB := n9_; have BK545 := n10_; have GW545 := n11_; have GE545 := n12_; have NB481_545 := n13_; have NB545_481 := n14_; have NB482_545 := n15_; have NB545_482 := n16_; have NB506_545 := n17_; have NB545_506 := n18_; have NB524_545 := n19_; have NB545_524 := n20_; clear n0_ n1_ n2_ n3_ n4_ n5_ n6_ n7_ n8_ n9_ n10_ n11_ n12_ n13_ n14_ n15_ n16_ n17_ n18_ n19_ n20_; clear hb hbox hg; have hnb140 := NB545_481.out; have hnc140 := NB481_545.out; have hnb141 := NB545_482.out; have hnc141 := NB482_545.out; have hnb142 := NB545_506.out; have hnc142 := NB506_545.out; have hnb143 := NB545_524.out; have hnc143 := NB524_545.out; have hcz144_0 : w139.cell? ⟨gb545, 0, none⟩ = some (.int .i64 0) := (blk_cell BK545.out 0).trans rfl; have hcz144_1 : w139.cell? ⟨gb545, 1, none⟩ = some (.int .i64 0) := (blk_cell BK545.out 1).trans rfl; have hcz144_2 : w139.cell? ⟨gb545, 2, none⟩ = some (.int .i64 0) := (blk_cell BK545.out 2).trans rfl; have hcz144_3 : w139.cell? ⟨gb545, 3, none⟩ = some (.string (⟨#[]⟩ : ByteArray)) := (blk_cell BK545.out 3).trans rfl; have hcz144_4 : w139.cell? ⟨gb545, 4, none⟩ = some (.slice none 0 0) := (blk_cell BK545.out 4).trans rfl; have hfz144_0 := blk_frozen BK545.out 0; have hfz144_1 := blk_frozen BK545.out 1; have hfz144_2 := blk_frozen BK545.out 2; have hfz144_3 := blk_frozen BK545.out 3; have hfz144_4 := blk_frozen BK545.out 4; obtain ⟨Ao145, co145, eo145⟩ := Kd.N_slice HO543.out; subst eo145))
         go_ret
         exact ⟨by first | rfl | (simp [errW_none, errW_some] <;> rfl) | (simp [*, errW_none, errW_some] <;> rfl), bb⟩
 ·replace c6 := Bool.eq_false_iff.mpr c6
  subst c6
  have H1 : (some false) = some r := by rw [if_neg (show ¬ (false = true) by decide)] at H; exact H
  clear H
  have H := H1
  clear H1
  exact absurd ((Option.some.inj H).trans hT_.out) (by decide)

end Go.Proofs.Ytjicfkmpgogppaa.PO
