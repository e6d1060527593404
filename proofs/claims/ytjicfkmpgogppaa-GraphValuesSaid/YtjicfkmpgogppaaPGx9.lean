-- printed by a program of this session out of the translation; see NOTES.md
import Derived.Test.YtjicfkmpgogppaaPGx0
import Derived.Test.YtjicfkmpgogppaaPGx3
import Derived.Test.YtjicfkmpgogppaaPGx4
import Derived.Test.YtjicfkmpgogppaaPGx5
import Derived.Test.YtjicfkmpgogppaaPGx6
import Derived.Test.YtjicfkmpgogppaaPGx7
import Derived.Test.YtjicfkmpgogppaaPGx8
import Derived.Test.YtjicfkmpgogppaaRb
namespace Go.Proofs.Ytjicfkmpgogppaa.PG
open Go.RowKit Go.Proofs.YtjicfkmpgogppaaW.PrintWords Go.Proofs.YtjicfkmpgogppaaW.PrintLast Go.Proofs.YtjicfkmpgogppaaW.PrintMore Go.Proofs.YtjicfkmpgogppaaRb
attribute [local go_sem] max2_int min2_int max_two min_two max_three min_three max_four min_four   -- for this text's walks alone
set_option linter.unusedVariables false
set_option linter.unusedSimpArgs false

/-! ### graph_Check: function 15 -/
mutual
def graph_Check.l0 : Nat → List (S48) → Int → Int → ByteArray → List (S48) → Option (Int × Int)
 | 0, _, _, _, _, _ => none
 | k + 1, x30, x31, x32, x126000, x126001 => if x32 < x31 then (if 0 ≤ x32 then (if x32 < (x30.length : Int) then ((grant_Named.f ((rd_T48 x30 x32).f0)).bind fun t129 => (if t129 = true then ((graph_Flow_find.f x126000 x126001 ((rd_T48 x30 x32).f0)).bind fun t130 => (graph_Check.j1 k x32 x30 x31 x32 (decide (t130 < x32)) x126000 x126001 ((rd_T48 x30 x32).f0) ((rd_T48 x30 x32).f1) ((rd_T48 x30 x32).f2) ((rd_T48 x30 x32).f3) ((rd_T48 x30 x32).f4) ((rd_T48 x30 x32).f5))) else (graph_Check.j1 k x32 x30 x31 x32 true x126000 x126001 ((rd_T48 x30 x32).f0) ((rd_T48 x30 x32).f1) ((rd_T48 x30 x32).f2) ((rd_T48 x30 x32).f3) ((rd_T48 x30 x32).f4) ((rd_T48 x30 x32).f5)))) else (none)) else (none)) else (graph_Check.l1 k x126001 (x126001.length : Int) 0 x126000 x126001)
def graph_Check.j1 : Nat → Int → List (S48) → Int → Int → Bool → ByteArray → List (S48) → ByteArray → List ByteArray → Int → Int → Int → ByteArray → Option (Int × Int)
 | 0, _, _, _, _, _, _, _, _, _, _, _, _, _ => none
 | k + 1, x4, x30, x31, x32, x48, x126000, x126001, x129000, x129001, x129002, x129003, x129004, x129005 => if x48 = true then (some (x4, 30)) else ((graph_Node_check.f k x129000 x129001 x129002 x129003 x129004 x129005).bind fun t131 => (if t131 = 0 then (graph_Check.l0 k x30 x31 (wrap64 (x32 + 1)) x126000 x126001) else (some (x4, t131))))
def graph_Check.l1 : Nat → List (S48) → Int → Int → ByteArray → List (S48) → Option (Int × Int)
 | 0, _, _, _, _, _ => none
 | k + 1, x58, x59, x60, x126000, x126001 => if x60 < x59 then (if 0 ≤ x60 then (if x60 < (x58.length : Int) then (graph_Check.l2 k x60 x58 x59 x60 ((rd_T48 x58 x60).f1) (((rd_T48 x58 x60).f1).length : Int) 0 x126000 x126001 ((rd_T48 x58 x60).f0) ((rd_T48 x58 x60).f1) ((rd_T48 x58 x60).f2) ((rd_T48 x58 x60).f3) ((rd_T48 x58 x60).f4) ((rd_T48 x58 x60).f5)) else (none)) else (none)) else ((graph_Masks.f k x126000 x126001).bind fun t137 => ((graph_behind.f k t137).bind fun t140 => (graph_Check.l3 k t140 (t140.length : Int) 0)))
def graph_Check.l2 : Nat → Int → List (S48) → Int → Int → List ByteArray → Int → Int → ByteArray → List (S48) → ByteArray → List ByteArray → Int → Int → Int → ByteArray → Option (Int × Int)
 | 0, _, _, _, _, _, _, _, _, _, _, _, _, _, _, _ => none
 | k + 1, x7, x58, x59, x60, x66, x67, x68, x126000, x126001, x134000, x134001, x134002, x134003, x134004, x134005 => if x68 < x67 then (if 0 ≤ x68 then (if x68 < (x66.length : Int) then ((graph_Flow_find.f x126000 x126001 (rdOf ByteArray.empty x66 x68)).bind fun t135 => (if t135 < 0 then (some (x7, 32)) else ((slices_Index_string_string.f k x134001 (rdOf ByteArray.empty x66 x68)).bind fun t136 => (if t136 < x68 then (some (x7, 32)) else (graph_Check.l2 k x7 x58 x59 x60 x66 x67 (wrap64 (x68 + 1)) x126000 x126001 x134000 x134001 x134002 x134003 x134004 x134005))))) else (none)) else (none)) else (graph_Check.l1 k x58 x59 (wrap64 (x60 + 1)) x126000 x126001)
def graph_Check.l3 : Nat → List Int → Int → Int → Option (Int × Int)
 | 0, _, _, _ => none
 | k + 1, x90, x91, x92 => if x92 < x91 then (if 0 ≤ x92 then (if x92 < (x90.length : Int) then (if (Go.bits .and .u32 (shr .u32 (rd x90 x92) x92) 1) = 1 then (some (x92, 33)) else (graph_Check.l3 k x90 x91 (wrap64 (x92 + 1)))) else (none)) else (none)) else (some (0, 0))
end
def graph_Check.f (k : Nat) (a0_0 : ByteArray) (l0_1 : List (S48)) : Option (Int × Int) := (grant_Named.f a0_0).bind fun t126 => (if t126 = true then (if (l0_1.length : Int) < 1 then (some ((-1), 31)) else (if (l0_1.length : Int) > 12 then (some ((-1), 31)) else (graph_Check.l0 k l0_1 (l0_1.length : Int) 0 a0_0 l0_1))) else (some ((-1), 30)))
theorem graph_Check.mono_l : ∀ k, (∀ y0 y1 y2 y3 y4, LeO (graph_Check.l0 k y0 y1 y2 y3 y4) (graph_Check.l0 (k + 1) y0 y1 y2 y3 y4)) ∧ (∀ y0 y1 y2 y3 y4 y5 y6 y7 y8 y9 y10 y11 y12, LeO (graph_Check.j1 k y0 y1 y2 y3 y4 y5 y6 y7 y8 y9 y10 y11 y12) (graph_Check.j1 (k + 1) y0 y1 y2 y3 y4 y5 y6 y7 y8 y9 y10 y11 y12)) ∧ (∀ y0 y1 y2 y3 y4, LeO (graph_Check.l1 k y0 y1 y2 y3 y4) (graph_Check.l1 (k + 1) y0 y1 y2 y3 y4)) ∧ (∀ y0 y1 y2 y3 y4 y5 y6 y7 y8 y9 y10 y11 y12 y13 y14, LeO (graph_Check.l2 k y0 y1 y2 y3 y4 y5 y6 y7 y8 y9 y10 y11 y12 y13 y14) (graph_Check.l2 (k + 1) y0 y1 y2 y3 y4 y5 y6 y7 y8 y9 y10 y11 y12 y13 y14)) ∧ (∀ y0 y1 y2, LeO (graph_Check.l3 k y0 y1 y2) (graph_Check.l3 (k + 1) y0 y1 y2))
 | 0 => ⟨fun _ _ _ _ _ r h => by simp [graph_Check.l0] at h, fun _ _ _ _ _ _ _ _ _ _ _ _ _ r h => by simp [graph_Check.j1] at h, fun _ _ _ _ _ r h => by simp [graph_Check.l1] at h, fun _ _ _ _ _ _ _ _ _ _ _ _ _ _ _ r h => by simp [graph_Check.l2] at h, fun _ _ _ r h => by simp [graph_Check.l3] at h⟩
 | k + 1 => by
  obtain ⟨ih0, ih1, ih2, ih3, ih4⟩ := graph_Check.mono_l k
  refine ⟨?_, ?_, ?_, ?_, ?_⟩
  ·intro y0 y1 y2 y3 y4
   unfold graph_Check.l0
   repeat' first
   | (with_reducible exact ih0 _ _ _ _ _)
   | (with_reducible exact ih1 _ _ _ _ _ _ _ _ _ _ _ _ _)
   | (with_reducible exact ih2 _ _ _ _ _)
   | (with_reducible exact ih3 _ _ _ _ _ _ _ _ _ _ _ _ _ _ _)
   | (with_reducible exact ih4 _ _ _)
   | (with_reducible exact graph_Masks.mono _ _ _)
   | (with_reducible exact graph_Node_check.mono _ _ _ _ _ _ _)
   | (with_reducible exact graph_behind.mono _ _)
   | (with_reducible exact slices_Index_string_string.mono _ _ _)
   | (with_reducible exact LeO.refl _)
   | (with_reducible exact LeO.none _)
   | (with_reducible refine LeO.ite ?_ ?_)
   | (with_reducible refine LeO.bind ?_ (fun _ => ?_))
   | exact ih0 _ _ _ _ _
   | exact ih1 _ _ _ _ _ _ _ _ _ _ _ _ _
   | exact ih2 _ _ _ _ _
   | exact ih3 _ _ _ _ _ _ _ _ _ _ _ _ _ _ _
   | exact ih4 _ _ _
   | exact graph_Masks.mono _ _ _
   | exact graph_Node_check.mono _ _ _ _ _ _ _
   | exact graph_behind.mono _ _
   | exact slices_Index_string_string.mono _ _ _
   | exact LeO.none _
   | refine LeO.ite ?_ ?_
   | refine LeO.bind ?_ (fun _ => ?_)
  ·intro y0 y1 y2 y3 y4 y5 y6 y7 y8 y9 y10 y11 y12
   unfold graph_Check.j1
   repeat' first
   | (with_reducible exact ih0 _ _ _ _ _)
   | (with_reducible exact ih1 _ _ _ _ _ _ _ _ _ _ _ _ _)
   | (with_reducible exact ih2 _ _ _ _ _)
   | (with_reducible exact ih3 _ _ _ _ _ _ _ _ _ _ _ _ _ _ _)
   | (with_reducible exact ih4 _ _ _)
   | (with_reducible exact graph_Masks.mono _ _ _)
   | (with_reducible exact graph_Node_check.mono _ _ _ _ _ _ _)
   | (with_reducible exact graph_behind.mono _ _)
   | (with_reducible exact slices_Index_string_string.mono _ _ _)
   | (with_reducible exact LeO.refl _)
   | (with_reducible exact LeO.none _)
   | (with_reducible refine LeO.ite ?_ ?_)
   | (with_reducible refine LeO.bind ?_ (fun _ => ?_))
   | exact ih0 _ _ _ _ _
   | exact ih1 _ _ _ _ _ _ _ _ _ _ _ _ _
   | exact ih2 _ _ _ _ _
   | exact ih3 _ _ _ _ _ _ _ _ _ _ _ _ _ _ _
   | exact ih4 _ _ _
   | exact graph_Masks.mono _ _ _
   | exact graph_Node_check.mono _ _ _ _ _ _ _
   | exact graph_behind.mono _ _
   | exact slices_Index_string_string.mono _ _ _
   | exact LeO.none _
   | refine LeO.ite ?_ ?_
   | refine LeO.bind ?_ (fun _ => ?_)
  ·intro y0 y1 y2 y3 y4
   unfold graph_Check.l1
   repeat' first
   | (with_reducible exact ih0 _ _ _ _ _)
   | (with_reducible exact ih1 _ _ _ _ _ _ _ _ _ _ _ _ _)
   | (with_reducible exact ih2 _ _ _ _ _)
   | (with_reducible exact ih3 _ _ _ _ _ _ _ _ _ _ _ _ _ _ _)
   | (with_reducible exact ih4 _ _ _)
   | (with_reducible exact graph_Masks.mono _ _ _)
   | (with_reducible exact graph_Node_check.mono _ _ _ _ _ _ _)
   | (with_reducible exact graph_behind.mono _ _)
   | (with_reducible exact slices_Index_string_string.mono _ _ _)
   | (with_reducible exact LeO.refl _)
   | (with_reducible exact LeO.none _)
   | (with_reducible refine LeO.ite ?_ ?_)
   | (with_reducible refine LeO.bind ?_ (fun _ => ?_))
   | exact ih0 _ _ _ _ _
   | exact ih1 _ _ _ _ _ _ _ _ _ _ _ _ _
   | exact ih2 _ _ _ _ _
   | exact ih3 _ _ _ _ _ _ _ _ _ _ _ _ _ _ _
   | exact ih4 _ _ _
   | exact graph_Masks.mono _ _ _
   | exact graph_Node_check.mono _ _ _ _ _ _ _
   | exact graph_behind.mono _ _
   | exact slices_Index_string_string.mono _ _ _
   | exact LeO.none _
   | refine LeO.ite ?_ ?_
   | refine LeO.bind ?_ (fun _ => ?_)
  ·intro y0 y1 y2 y3 y4 y5 y6 y7 y8 y9 y10 y11 y12 y13 y14
   unfold graph_Check.l2
   repeat' first
   | (with_reducible exact ih0 _ _ _ _ _)
   | (with_reducible exact ih1 _ _ _ _ _ _ _ _ _ _ _ _ _)
   | (with_reducible exact ih2 _ _ _ _ _)
   | (with_reducible exact ih3 _ _ _ _ _ _ _ _ _ _ _ _ _ _ _)
   | (with_reducible exact ih4 _ _ _)
   | (with_reducible exact graph_Masks.mono _ _ _)
   | (with_reducible exact graph_Node_check.mono _ _ _ _ _ _ _)
   | (with_reducible exact graph_behind.mono _ _)
   | (with_reducible exact slices_Index_string_string.mono _ _ _)
   | (with_reducible exact LeO.refl _)
   | (with_reducible exact LeO.none _)
   | (with_reducible refine LeO.ite ?_ ?_)
   | (with_reducible refine LeO.bind ?_ (fun _ => ?_))
   | exact ih0 _ _ _ _ _
   | exact ih1 _ _ _ _ _ _ _ _ _ _ _ _ _
   | exact ih2 _ _ _ _ _
   | exact ih3 _ _ _ _ _ _ _ _ _ _ _ _ _ _ _
   | exact ih4 _ _ _
   | exact graph_Masks.mono _ _ _
   | exact graph_Node_check.mono _ _ _ _ _ _ _
   | exact graph_behind.mono _ _
   | exact slices_Index_string_string.mono _ _ _
   | exact LeO.none _
   | refine LeO.ite ?_ ?_
   | refine LeO.bind ?_ (fun _ => ?_)
  ·intro y0 y1 y2
   unfold graph_Check.l3
   repeat' first
   | (with_reducible exact ih0 _ _ _ _ _)
   | (with_reducible exact ih1 _ _ _ _ _ _ _ _ _ _ _ _ _)
   | (with_reducible exact ih2 _ _ _ _ _)
   | (with_reducible exact ih3 _ _ _ _ _ _ _ _ _ _ _ _ _ _ _)
   | (with_reducible exact ih4 _ _ _)
   | (with_reducible exact graph_Masks.mono _ _ _)
   | (with_reducible exact graph_Node_check.mono _ _ _ _ _ _ _)
   | (with_reducible exact graph_behind.mono _ _)
   | (with_reducible exact slices_Index_string_string.mono _ _ _)
   | (with_reducible exact LeO.refl _)
   | (with_reducible exact LeO.none _)
   | (with_reducible refine LeO.ite ?_ ?_)
   | (with_reducible refine LeO.bind ?_ (fun _ => ?_))
   | exact ih0 _ _ _ _ _
   | exact ih1 _ _ _ _ _ _ _ _ _ _ _ _ _
   | exact ih2 _ _ _ _ _
   | exact ih3 _ _ _ _ _ _ _ _ _ _ _ _ _ _ _
   | exact ih4 _ _ _
   | exact graph_Masks.mono _ _ _
   | exact graph_Node_check.mono _ _ _ _ _ _ _
   | exact graph_behind.mono _ _
   | exact slices_Index_string_string.mono _ _ _
   | exact LeO.none _
   | refine LeO.ite ?_ ?_
   | refine LeO.bind ?_ (fun _ => ?_)
theorem graph_Check.mono : ∀ a0 a1 k, LeO (graph_Check.f k a0 a1) (graph_Check.f (k + 1) a0 a1) := by
 intro a0 a1 k
 obtain ⟨ih0, ih1, ih2, ih3, ih4⟩ := graph_Check.mono_l k
 unfold graph_Check.f
 repeat' first
   | (with_reducible exact ih0 _ _ _ _ _)
   | (with_reducible exact ih1 _ _ _ _ _ _ _ _ _ _ _ _ _)
   | (with_reducible exact ih2 _ _ _ _ _)
   | (with_reducible exact ih3 _ _ _ _ _ _ _ _ _ _ _ _ _ _ _)
   | (with_reducible exact ih4 _ _ _)
   | (with_reducible exact graph_Masks.mono _ _ _)
   | (with_reducible exact graph_Node_check.mono _ _ _ _ _ _ _)
   | (with_reducible exact graph_behind.mono _ _)
   | (with_reducible exact slices_Index_string_string.mono _ _ _)
   | (with_reducible exact LeO.refl _)
   | (with_reducible exact LeO.none _)
   | (with_reducible refine LeO.ite ?_ ?_)
   | (with_reducible refine LeO.bind ?_ (fun _ => ?_))
   | exact ih0 _ _ _ _ _
   | exact ih1 _ _ _ _ _ _ _ _ _ _ _ _ _
   | exact ih2 _ _ _ _ _
   | exact ih3 _ _ _ _ _ _ _ _ _ _ _ _ _ _ _
   | exact ih4 _ _ _
   | exact graph_Masks.mono _ _ _
   | exact graph_Node_check.mono _ _ _ _ _ _ _
   | exact graph_behind.mono _ _
   | exact slices_Index_string_string.mono _ _ _
   | exact LeO.none _
   | refine LeO.ite ?_ ?_
   | refine LeO.bind ?_ (fun _ => ?_)
set_option maxHeartbeats 8000000 in
set_option maxRecDepth 100000 in
theorem graph_Check.calls (k : Nat) (a0_0 : ByteArray) (A0_1 : Option Addr) (c0_1 : Nat) (l0_1 : List (S48)) (r1 : Int) (r2 : Int) (w : World) (hr0_1 : Kd.C k48 w A0_1 l0_1.length l0_1) (hc0_1 : l0_1.length ≤ c0_1) (h : graph_Check.f k a0_0 l0_1 = some (r1, r2)) :
  Calls Try.prog 15 #[.agg #[.string a0_0, .slice A0_1 l0_1.length c0_1]] w fun e w' => e = .returned (.tuple #[.int .i64 r1, .int .i64 r2]) ∧ Below w.heap.size w w' := by
 have hu27 := Try.underlying27
 have hu48 := Try.underlying48
 have HR0_1 := Aside0.mk hr0_1
 have HC0_1 := Aside0.mk hc0_1
 clear hr0_1 hc0_1
 have HB := Aside0.mk (Below.refl w.heap.size w)
 have H : ((grant_Named.f a0_0).bind fun t126 => (if t126 = true then (if (l0_1.length : Int) < 1 then (some ((-1), 31)) else (if (l0_1.length : Int) > 12 then (some ((-1), 31)) else (graph_Check.l0 k l0_1 (l0_1.length : Int) 0 a0_0 l0_1))) else (some ((-1), 30)))) = some (r1, r2) := h
 clear h
 replace H := Option.bind_eq_some_iff.mp H
 obtain ⟨t126, A20, H⟩ := H
 replace H : (if t126 = true then (if (l0_1.length : Int) < 1 then (some ((-1), 31)) else (if (l0_1.length : Int) > 12 then (some ((-1), 31)) else (graph_Check.l0 k l0_1 (l0_1.length : Int) 0 a0_0 l0_1))) else (some ((-1), 30))) = some (r1, r2) := H
 have A2 := Aside0.mk A20
 clear A20
 by_cases c3 : t126 = true
 ·subst c3
  have H1 : (if (l0_1.length : Int) < 1 then (some ((-1), 31)) else (if (l0_1.length : Int) > 12 then (some ((-1), 31)) else (graph_Check.l0 k l0_1 (l0_1.length : Int) 0 a0_0 l0_1))) = some (r1, r2) := by rw [if_pos rfl] at H; exact H
  clear H
  have H := H1
  clear H1
  by_cases c4 : (l0_1.length : Int) < 1
  ·rw [if_pos c4] at H
   have c4b0 : decide ((l0_1.length : Int) < 1) = true := decide_eq_true c4
   have c4b1 : decide (l0_1.length < 1) = true := decide_eq_true (by omega)
   clear c4
   simp only [Option.some.injEq, Prod.mk.injEq] at H
   obtain ⟨rfl, rfl⟩ := H
   go_enter Try.func15, Try.ntmps15
   go_wp2_with (first | ((with_reducible refine gate_dst (N := 1) rfl ?_); (try (refine gate_guard (by rfl) ?_; dsimp only)); refine box_event ?hg (N := 1) ?hd (cs := #[.string a0_0, .slice A0_1 l0_1.length c0_1]) (t := 27) ?hr ?_; (case hd => rfl); (case hg => rfl); (case hr => first | (go_simp; done) | (go_simp; rfl)); intro gb125 hg w5 hbox hb; have n0_ := Aside0.mk (below_step bb hb); have n1_ := Aside0.mk (hbox); have n2_ := Aside0.mk ((by rw [hg]; exact (below_size bb) : w.heap.size ≤ gb125)); have n3_ := Aside0.mk ((by rw [hg]; exact (below_size bb) : w.heap.size ≤ gb125)); clear HB; have HB := n0_; have BK125 := n1_; have GW125 := n2_; have GE125 := n3_; clear n0_ n1_ n2_ n3_; clear hb hbox hg; have hcz6_0 : w5.cell? ⟨gb125, 0, none⟩ = some (.string a0_0) := (blk_cell BK125.out 0).trans rfl; have hcz6_1 : w5.cell? ⟨gb125, 1, none⟩ = some (.slice A0_1 l0_1.length c0_1) := (blk_cell BK125.out 1).trans rfl; have hfz6_0 := blk_frozen BK125.out 0; have hfz6_1 := blk_frozen BK125.out 1) | ((with_reducible refine gate_callee (f := 49) rfl ?_); refine goesL_ (some 16) rfl rfl Try.func49 (by kernel_rfl) rfl #[.string a0_0] rfl ag ?_; (with_reducible refine (grant_Named.calls a0_0 true _ A2.out).mono ?_); rintro e w7 ⟨rfl, hb⟩; refine ⟨_, rfl, ?_⟩; have n0_ := Aside0.mk (blk_below (rb BK125.out) hb); have n1_ := Aside0.mk (below_step bb hb); clear BK125; clear HB; have BK125 := n0_; have HB := n1_; clear n0_ n1_; (try clear hb); (try clear hb2); (try clear hk); (try clear hi); have hcz8_0 : w7.cell? ⟨gb125, 0, none⟩ = some (.string a0_0) := (blk_cell BK125.out 0).trans rfl; have hcz8_1 : w7.cell? ⟨gb125, 1, none⟩ = some (.slice A0_1 l0_1.length c0_1) := (blk_cell BK125.out 1).trans rfl; have hfz8_0 := blk_frozen BK125.out 0; have hfz8_1 := blk_frozen BK125.out 1))
   go_ret2
   exact ⟨by first | rfl | (simp [errW_none, errW_some] <;> rfl) | (simp [*, errW_none, errW_some] <;> rfl), bb⟩
  ·rw [if_neg c4] at H
   have c4b0 : decide ((l0_1.length : Int) < 1) = false := decide_eq_false c4
   have c4b1 : decide (l0_1.length < 1) = false := decide_eq_false (by omega)
   clear c4
   by_cases c9 : (l0_1.length : Int) > 12
   ·rw [if_pos c9] at H
    have c9b0 : decide (12 < (l0_1.length : Int)) = true := decide_eq_true c9
    have c9b1 : decide (12 < l0_1.length) = true := decide_eq_true (by omega)
    clear c9
    simp only [Option.some.injEq, Prod.mk.injEq] at H
    obtain ⟨rfl, rfl⟩ := H
    go_enter Try.func15, Try.ntmps15
    go_wp2_with (first | ((with_reducible refine gate_dst (N := 1) rfl ?_); (try (refine gate_guard (by rfl) ?_; dsimp only)); refine box_event ?hg (N := 1) ?hd (cs := #[.string a0_0, .slice A0_1 l0_1.length c0_1]) (t := 27) ?hr ?_; (case hd => rfl); (case hg => rfl); (case hr => first | (go_simp; done) | (go_simp; rfl)); intro gb125 hg w10 hbox hb; have n0_ := Aside0.mk (below_step bb hb); have n1_ := Aside0.mk (hbox); have n2_ := Aside0.mk ((by rw [hg]; exact (below_size bb) : w.heap.size ≤ gb125)); have n3_ := Aside0.mk ((by rw [hg]; exact (below_size bb) : w.heap.size ≤ gb125)); clear HB; have HB := n0_; have BK125 := n1_; have GW125 := n2_; have GE125 := n3_; clear n0_ n1_ n2_ n3_; clear hb hbox hg; have hcz11_0 : w10.cell? ⟨gb125, 0, none⟩ = some (.string a0_0) := (blk_cell BK125.out 0).trans rfl; have hcz11_1 : w10.cell? ⟨gb125, 1, none⟩ = some (.slice A0_1 l0_1.length c0_1) := (blk_cell BK125.out 1).trans rfl; have hfz11_0 := blk_frozen BK125.out 0; have hfz11_1 := blk_frozen BK125.out 1) | ((with_reducible refine gate_callee (f := 49) rfl ?_); refine goesL_ (some 16) rfl rfl Try.func49 (by kernel_rfl) rfl #[.string a0_0] rfl ag ?_; (with_reducible refine (grant_Named.calls a0_0 true _ A2.out).mono ?_); rintro e w12 ⟨rfl, hb⟩; refine ⟨_, rfl, ?_⟩; have n0_ := Aside0.mk (blk_below (rb BK125.out) hb); have n1_ := Aside0.mk (below_step bb hb); clear BK125; clear HB; have BK125 := n0_; have HB := n1_; clear n0_ n1_; (try clear hb); (try clear hb2); (try clear hk); (try clear hi); have hcz13_0 : w12.cell? ⟨gb125, 0, none⟩ = some (.string a0_0) := (blk_cell BK125.out 0).trans rfl; have hcz13_1 : w12.cell? ⟨gb125, 1, none⟩ = some (.slice A0_1 l0_1.length c0_1) := (blk_cell BK125.out 1).trans rfl; have hfz13_0 := blk_frozen BK125.out 0; have hfz13_1 := blk_frozen BK125.out 1))
    go_ret2
    exact ⟨by first | rfl | (simp [errW_none, errW_some] <;> rfl) | (simp [*, errW_none, errW_some] <;> rfl), bb⟩
   ·rw [if_neg c9] at H
    have c9b0 : decide (12 < (l0_1.length : Int)) = false := decide_eq_false c9
    have c9b1 : decide (12 < l0_1.length) = false := decide_eq_false (by omega)
    clear c9
    have H' := Aside0.mk H
    clear H
    go_enter Try.func15, Try.ntmps15
    go_wp2_with (first | ((with_reducible refine gate_dst (N := 1) rfl ?_); (try (refine gate_guard (by rfl) ?_; dsimp only)); refine box_event ?hg (N := 1) ?hd (cs := #[.string a0_0, .slice A0_1 l0_1.length c0_1]) (t := 27) ?hr ?_; (case hd => rfl); (case hg => rfl); (case hr => first | (go_simp; done) | (go_simp; rfl)); intro gb125 hg w14 hbox hb; have n0_ := Aside0.mk (below_step bb hb); have n1_ := Aside0.mk (hbox); have n2_ := Aside0.mk ((by rw [hg]; exact (below_size bb) : w.heap.size ≤ gb125)); have n3_ := Aside0.mk ((by rw [hg]; exact (below_size bb) : w.heap.size ≤ gb125)); clear HB; have HB := n0_; have BK125 := n1_; have GW125 := n2_; have GE125 := n3_; clear n0_ n1_ n2_ n3_; clear hb hbox hg; have hcz15_0 : w14.cell? ⟨gb125, 0, none⟩ = some (.string a0_0) := (blk_cell BK125.out 0).trans rfl; have hcz15_1 : w14.cell? ⟨gb125, 1, none⟩ = some (.slice A0_1 l0_1.length c0_1) := (blk_cell BK125.out 1).trans rfl; have hfz15_0 := blk_frozen BK125.out 0; have hfz15_1 := blk_frozen BK125.out 1) | ((with_reducible refine gate_callee (f := 49) rfl ?_); refine goesL_ (some 16) rfl rfl Try.func49 (by kernel_rfl) rfl #[.string a0_0] rfl ag ?_; (with_reducible refine (grant_Named.calls a0_0 true _ A2.out).mono ?_); rintro e w16 ⟨rfl, hb⟩; refine ⟨_, rfl, ?_⟩; have n0_ := Aside0.mk (blk_below (rb BK125.out) hb); have n1_ := Aside0.mk (below_step bb hb); clear BK125; clear HB; have BK125 := n0_; have HB := n1_; clear n0_ n1_; (try clear hb); (try clear hb2); (try clear hk); (try clear hi); have hcz17_0 : w16.cell? ⟨gb125, 0, none⟩ = some (.string a0_0) := (blk_cell BK125.out 0).trans rfl; have hcz17_1 : w16.cell? ⟨gb125, 1, none⟩ = some (.slice A0_1 l0_1.length c0_1) := (blk_cell BK125.out 1).trans rfl; have hfz17_0 := blk_frozen BK125.out 0; have hfz17_1 := blk_frozen BK125.out 1))
    go_loopg [32] k (fun kq v32 w' => ∃ (x32_1 : Int), v32 = .int .i64 x32_1 ∧ Aside0 (graph_Check.l0 kq l0_1 (l0_1.length : Int) x32_1 a0_0 l0_1 = some (r1, r2)) ∧ Aside0 (kq ≤ k) ∧ Aside0 (w'.heap[gb125]? = some (.cells #[.string a0_0, (.slice A0_1 l0_1.length c0_1)] 27 (0, 0))) ∧ Aside0 (Below w.heap.size w w'))
    case atStart => exact ⟨(0), (by first | rfl | (simp; done) | (simp [*]; done)), H', ⟨Nat.le_refl _⟩, ⟨by (with_reducible repeat (first | refine blk_drewN ?_ _ | refine blk_drew ?_ | refine blk_alloc ?_ _)); exact BK125.out⟩, ⟨bb⟩⟩
    case round =>
     clear H'
     try clear c1
     try clear p2
     try clear c3
     try clear c4
     try clear c4b0
     try clear c4b1
     try clear c9
     try clear c9b0
     try clear c9b1
     try clear c15
     try clear hcz11_0
     try clear hcz11_1
     try clear hcz13_0
     try clear hcz13_1
     try clear hcz15_0
     try clear hcz15_1
     try clear hcz17_0
     try clear hcz17_1
     try clear hcz6_0
     try clear hcz6_1
     try clear hcz8_0
     try clear hcz8_1
     try clear hfz11_0
     try clear hfz11_1
     try clear hfz13_0
     try clear hfz13_1
     try clear hfz15_0
     try clear hfz15_1
     try clear hfz17_0
     try clear hfz17_1
     try clear hfz6_0
     try clear hfz6_1
     try clear hfz8_0
     try clear hfz8_1
     obtain ⟨x32_1, rfl, HA, HK1, BK125, HB⟩ := hrel
     cases gk with
     | zero => exact absurd HA.out (by simp [graph_Check.l0])
     | succ k1 =>
      have H := HA.out
      clear HA
      simp only [graph_Check.l0] at H
      by_cases c18 : x32_1 < (l0_1.length : Int)
      ·rw [if_pos c18] at H
       have c18b0 : decide (x32_1 < (l0_1.length : Int)) = true := decide_eq_true c18
       clear c18
       by_cases c19 : 0 ≤ x32_1
       ·rw [if_pos c19] at H
        have c19b0 : decide (0 ≤ x32_1) = true := decide_eq_true c19
        clear c19
        by_cases c20 : x32_1 < (l0_1.length : Int)
        ·rw [if_pos c20] at H
         have c20b0 : decide (x32_1 < (l0_1.length : Int)) = true := decide_eq_true c20
         clear c20
         have HC21 := Aside0.mk H
         clear H
         have p127 : 0 ≤ (x32_1 : Int) := of_decide_eq_true (by first | (with_reducible assumption) | assumption)
         have q127 : x32_1 < (l0_1.length : Int) := of_decide_eq_true (by first | (with_reducible assumption) | assumption)
         obtain ⟨ad127, A127_1, c127_1, e127, hx127_0, hx127_1, hx127_2, hx127_3, hx127_4, hx127_5, hl127_1, hi127_1⟩ := at_T48 HR0_1.out x32_1 p127 q127
         cases e127
         replace hx127_0 := (HB.out.cell (World.block_lt_of_cell? w _ hx127_0)).trans hx127_0
         replace hx127_1 := (HB.out.cell (World.block_lt_of_cell? w _ hx127_1)).trans hx127_1
         replace hx127_2 := (HB.out.cell (World.block_lt_of_cell? w _ hx127_2)).trans hx127_2
         replace hx127_3 := (HB.out.cell (World.block_lt_of_cell? w _ hx127_3)).trans hx127_3
         replace hx127_4 := (HB.out.cell (World.block_lt_of_cell? w _ hx127_4)).trans hx127_4
         replace hx127_5 := (HB.out.cell (World.block_lt_of_cell? w _ hx127_5)).trans hx127_5
         have HR127_1 := Aside0.mk hi127_1
         have HC127_1 := Aside0.mk hl127_1
         clear hi127_1 hl127_1
         replace p127 := eq_true p127
         replace q127 := eq_true q127
         go_upto_region 8 with (first | ((with_reducible refine gate_dst (N := 5) rfl ?_); (try (refine gate_guard (by rfl) ?_; dsimp only)); refine box_event ?hg (N := 5) ?hd (cs := #[.string (⟨#[]⟩ : ByteArray), .slice none 0 0, .int .i64 0, .int .i64 0, .int .i64 0, .string (⟨#[]⟩ : ByteArray)]) (t := 48) ?hr ?_; (case hd => rfl); (case hg => rfl); (case hr => first | (go_simp; done) | (go_simp; rfl)); intro gb128 hg w22 hbox hb; have n0_ := Aside0.mk (blk_below (rb BK125.out) hb); have n1_ := Aside0.mk (below_step bb hb); have n2_ := Aside0.mk (hbox); have n3_ := Aside0.mk ((by rw [hg]; exact (below_size bb) : w.heap.size ≤ gb128)); have n4_ := Aside0.mk ((by rw [hg]; exact (below_size bb) : w.heap.size ≤ gb128)); have n5_ := Aside0.mk ((by rw [hg]; exact Nat.ne_of_lt (blk_lt (rb BK125.out)) : gb125 ≠ gb128)); have n6_ := Aside0.mk ((by rw [hg]; exact Nat.ne_of_gt (blk_lt (rb BK125.out)) : gb128 ≠ gb125)); clear BK125; clear HB; have BK125 := n0_; have HB := n1_; have BK128 := n2_; have GW128 := n3_; have GE128 := n4_; have NB125_128 := n5_; have NB128_125 := n6_; clear n0_ n1_ n2_ n3_ n4_ n5_ n6_; clear hb hbox hg; have hnb23 := NB128_125.out; have hnc23 := NB125_128.out; have hcz24_0 : w22.cell? ⟨gb128, 0, none⟩ = some (.string (⟨#[]⟩ : ByteArray)) := (blk_cell BK128.out 0).trans rfl; have hcz24_1 : w22.cell? ⟨gb128, 1, none⟩ = some (.slice none 0 0) := (blk_cell BK128.out 1).trans rfl; have hcz24_2 : w22.cell? ⟨gb128, 2, none⟩ = some (.int .i64 0) := (blk_cell BK128.out 2).trans rfl; have hcz24_3 : w22.cell? ⟨gb128, 3, none⟩ = some (.int .i64 0) := (blk_cell BK128.out 3).trans rfl; have hcz24_4 : w22.cell? ⟨gb128, 4, none⟩ = some (.int .i64 0) := (blk_cell BK128.out 4).trans rfl; have hcz24_5 : w22.cell? ⟨gb128, 5, none⟩ = some (.string (⟨#[]⟩ : ByteArray)) := (blk_cell BK128.out 5).trans rfl; have hfz24_0 := blk_frozen BK128.out 0; have hfz24_1 := blk_frozen BK128.out 1; have hfz24_2 := blk_frozen BK128.out 2; have hfz24_3 := blk_frozen BK128.out 3; have hfz24_4 := blk_frozen BK128.out 4; have hfz24_5 := blk_frozen BK128.out 5))
         (try simp only [Act.put, List.setIfInBounds_toArray, List.set_cons_zero, List.set_cons_succ])
         go_cut [48] (fun v48 wc => ∃ (kq : Nat) (x48_20 : Bool), v48 = .bool x48_20 ∧ Aside0 (graph_Check.j1 kq x32_1 l0_1 (l0_1.length : Int) x32_1 x48_20 a0_0 l0_1 ((rd_T48 l0_1 x32_1).f0) ((rd_T48 l0_1 x32_1).f1) ((rd_T48 l0_1 x32_1).f2) ((rd_T48 l0_1 x32_1).f3) ((rd_T48 l0_1 x32_1).f4) ((rd_T48 l0_1 x32_1).f5) = some (r1, r2)) ∧ Aside0 (kq ≤ k1) ∧ Aside0 (wc.heap[gb125]? = some (.cells #[.string a0_0, (.slice (some ad127) l0_1.length c0_1)] 27 (0, 0))) ∧ Aside0 (wc.heap[gb128]? = some (.cells #[.string ((rd_T48 l0_1 x32_1).f0), (.slice A127_1 ((rd_T48 l0_1 x32_1).f1).length c127_1), .int .i64 ((rd_T48 l0_1 x32_1).f2), .int .i64 ((rd_T48 l0_1 x32_1).f3), .int .i64 ((rd_T48 l0_1 x32_1).f4), .string ((rd_T48 l0_1 x32_1).f5)] 48 (0, 0))) ∧ Aside0 (Below w.heap.size w wc))
         case first =>
          have H := HC21.out
          clear HC21
          replace H := Option.bind_eq_some_iff.mp H
          obtain ⟨t129, A250, H⟩ := H
          replace H : (if t129 = true then ((graph_Flow_find.f a0_0 l0_1 ((rd_T48 l0_1 x32_1).f0)).bind fun t130 => (graph_Check.j1 k1 x32_1 l0_1 (l0_1.length : Int) x32_1 (decide (t130 < x32_1)) a0_0 l0_1 ((rd_T48 l0_1 x32_1).f0) ((rd_T48 l0_1 x32_1).f1) ((rd_T48 l0_1 x32_1).f2) ((rd_T48 l0_1 x32_1).f3) ((rd_T48 l0_1 x32_1).f4) ((rd_T48 l0_1 x32_1).f5))) else (graph_Check.j1 k1 x32_1 l0_1 (l0_1.length : Int) x32_1 true a0_0 l0_1 ((rd_T48 l0_1 x32_1).f0) ((rd_T48 l0_1 x32_1).f1) ((rd_T48 l0_1 x32_1).f2) ((rd_T48 l0_1 x32_1).f3) ((rd_T48 l0_1 x32_1).f4) ((rd_T48 l0_1 x32_1).f5))) = some (r1, r2) := H
          have A25 := Aside0.mk A250
          clear A250
          by_cases c26 : t129 = true
          ·subst c26
           have H1 : ((graph_Flow_find.f a0_0 l0_1 ((rd_T48 l0_1 x32_1).f0)).bind fun t130 => (graph_Check.j1 k1 x32_1 l0_1 (l0_1.length : Int) x32_1 (decide (t130 < x32_1)) a0_0 l0_1 ((rd_T48 l0_1 x32_1).f0) ((rd_T48 l0_1 x32_1).f1) ((rd_T48 l0_1 x32_1).f2) ((rd_T48 l0_1 x32_1).f3) ((rd_T48 l0_1 x32_1).f4) ((rd_T48 l0_1 x32_1).f5))) = some (r1, r2) := by rw [if_pos rfl] at H; exact H
           clear H
           have H := H1
           clear H1
           replace H := Option.bind_eq_some_iff.mp H
           obtain ⟨t130, A270, H⟩ := H
           replace H : (graph_Check.j1 k1 x32_1 l0_1 (l0_1.length : Int) x32_1 (decide (t130 < x32_1)) a0_0 l0_1 ((rd_T48 l0_1 x32_1).f0) ((rd_T48 l0_1 x32_1).f1) ((rd_T48 l0_1 x32_1).f2) ((rd_T48 l0_1 x32_1).f3) ((rd_T48 l0_1 x32_1).f4) ((rd_T48 l0_1 x32_1).f5)) = some (r1, r2) := H
           have A27 := Aside0.mk A270
           clear A270
           have H' := Aside0.mk H
           clear H
           have hnb28 := NB128_125.out
           have hnc28 := NB125_128.out
           have hcz29_0 : w22.cell? ⟨gb128, 0, none⟩ = some (.string (⟨#[]⟩ : ByteArray)) := (blk_cell BK128.out 0).trans rfl
           have hcz29_1 : w22.cell? ⟨gb128, 1, none⟩ = some (.slice none 0 0) := (blk_cell BK128.out 1).trans rfl
           have hcz29_2 : w22.cell? ⟨gb128, 2, none⟩ = some (.int .i64 0) := (blk_cell BK128.out 2).trans rfl
           have hcz29_3 : w22.cell? ⟨gb128, 3, none⟩ = some (.int .i64 0) := (blk_cell BK128.out 3).trans rfl
           have hcz29_4 : w22.cell? ⟨gb128, 4, none⟩ = some (.int .i64 0) := (blk_cell BK128.out 4).trans rfl
           have hcz29_5 : w22.cell? ⟨gb128, 5, none⟩ = some (.string (⟨#[]⟩ : ByteArray)) := (blk_cell BK128.out 5).trans rfl
           have hfz29_0 := blk_frozen BK128.out 0
           have hfz29_1 := blk_frozen BK128.out 1
           have hfz29_2 := blk_frozen BK128.out 2
           have hfz29_3 := blk_frozen BK128.out 3
           have hfz29_4 := blk_frozen BK128.out 4
           have hfz29_5 := blk_frozen BK128.out 5
           go_wp2_with (first | ((with_reducible refine gate_callee (f := 49) rfl ?_); refine goesL_ (some 39) rfl rfl Try.func49 (by kernel_rfl) rfl #[.string ((rd_T48 l0_1 x32_1).f0)] rfl ag ?_; (with_reducible refine (grant_Named.calls ((rd_T48 l0_1 x32_1).f0) true _ A25.out).mono ?_); rintro e w30 ⟨rfl, hb⟩; refine ⟨_, rfl, ?_⟩; have n0_ := Aside0.mk (blk_below (rb (blk_far (rb (blk_far (rb (blk_far (rb (blk_far (rb (blk_far (rb (blk_far (rb BK125.out) NB125_128.out _)) NB125_128.out _)) NB125_128.out _)) NB125_128.out _)) NB125_128.out _)) NB125_128.out _)) hb); have n1_ := Aside0.mk (blk_below (rb (blk_put (cs := #[.string ((rd_T48 l0_1 x32_1).f0), .slice A127_1 ((rd_T48 l0_1 x32_1).f1).length c127_1, .int .i64 ((rd_T48 l0_1 x32_1).f2), .int .i64 ((rd_T48 l0_1 x32_1).f3), .int .i64 ((rd_T48 l0_1 x32_1).f4), .string (⟨#[]⟩ : ByteArray)]) (rb (blk_put (cs := #[.string ((rd_T48 l0_1 x32_1).f0), .slice A127_1 ((rd_T48 l0_1 x32_1).f1).length c127_1, .int .i64 ((rd_T48 l0_1 x32_1).f2), .int .i64 ((rd_T48 l0_1 x32_1).f3), .int .i64 0, .string (⟨#[]⟩ : ByteArray)]) (rb (blk_put (cs := #[.string ((rd_T48 l0_1 x32_1).f0), .slice A127_1 ((rd_T48 l0_1 x32_1).f1).length c127_1, .int .i64 ((rd_T48 l0_1 x32_1).f2), .int .i64 0, .int .i64 0, .string (⟨#[]⟩ : ByteArray)]) (rb (blk_put (cs := #[.string ((rd_T48 l0_1 x32_1).f0), .slice A127_1 ((rd_T48 l0_1 x32_1).f1).length c127_1, .int .i64 0, .int .i64 0, .int .i64 0, .string (⟨#[]⟩ : ByteArray)]) (rb (blk_put (cs := #[.string ((rd_T48 l0_1 x32_1).f0), .slice none 0 0, .int .i64 0, .int .i64 0, .int .i64 0, .string (⟨#[]⟩ : ByteArray)]) (rb (blk_put (cs := #[.string (⟨#[]⟩ : ByteArray), .slice none 0 0, .int .i64 0, .int .i64 0, .int .i64 0, .string (⟨#[]⟩ : ByteArray)]) (rb BK128.out) 0 _ rfl)) 1 _ rfl)) 2 _ rfl)) 3 _ rfl)) 4 _ rfl)) 5 _ rfl)) hb); have n2_ := Aside0.mk (below_step bb hb); clear BK125; clear BK128; clear HB; have BK125 := n0_; have BK128 := n1_; have HB := n2_; clear n0_ n1_ n2_; (try clear hb); (try clear hb2); (try clear hk); (try clear hi); have hcz31_0 : w30.cell? ⟨gb125, 0, none⟩ = some (.string a0_0) := (blk_cell BK125.out 0).trans rfl; have hcz31_1 : w30.cell? ⟨gb125, 1, none⟩ = some (.slice (some ad127) l0_1.length c0_1) := (blk_cell BK125.out 1).trans rfl; have hfz31_0 := blk_frozen BK125.out 0; have hfz31_1 := blk_frozen BK125.out 1; have hcz32_0 : w30.cell? ⟨gb128, 0, none⟩ = some (.string ((rd_T48 l0_1 x32_1).f0)) := (blk_cell BK128.out 0).trans rfl; have hcz32_1 : w30.cell? ⟨gb128, 1, none⟩ = some (.slice A127_1 ((rd_T48 l0_1 x32_1).f1).length c127_1) := (blk_cell BK128.out 1).trans rfl; have hcz32_2 : w30.cell? ⟨gb128, 2, none⟩ = some (.int .i64 ((rd_T48 l0_1 x32_1).f2)) := (blk_cell BK128.out 2).trans rfl; have hcz32_3 : w30.cell? ⟨gb128, 3, none⟩ = some (.int .i64 ((rd_T48 l0_1 x32_1).f3)) := (blk_cell BK128.out 3).trans rfl; have hcz32_4 : w30.cell? ⟨gb128, 4, none⟩ = some (.int .i64 ((rd_T48 l0_1 x32_1).f4)) := (blk_cell BK128.out 4).trans rfl; have hcz32_5 : w30.cell? ⟨gb128, 5, none⟩ = some (.string ((rd_T48 l0_1 x32_1).f5)) := (blk_cell BK128.out 5).trans rfl; have hfz32_0 := blk_frozen BK128.out 0; have hfz32_1 := blk_frozen BK128.out 1; have hfz32_2 := blk_frozen BK128.out 2; have hfz32_3 := blk_frozen BK128.out 3; have hfz32_4 := blk_frozen BK128.out 4; have hfz32_5 := blk_frozen BK128.out 5) | (go_at_call 50; (with_reducible refine (graph_Flow_find.calls a0_0 _ _ l0_1 ((rd_T48 l0_1 x32_1).f0) t130 _ ?side1 ?side2 A27.out).mono ?_); (case side1 => repeat (first | exact (Kd.C_below HR0_1.out HB.out) | (with_reducible refine Kd.C_alloc ?_ _) | (with_reducible refine Kd.C_drewN ?_ _) | (with_reducible refine Kd.C_drew ?_))); (case side2 => exact HC0_1.out); rintro e w33 ⟨rfl, hb⟩; have n0_ := Aside0.mk (blk_below (rb BK125.out) hb); have n1_ := Aside0.mk (blk_below (rb BK128.out) hb); have n2_ := Aside0.mk (below_step bb hb); clear BK125; clear BK128; clear HB; have BK125 := n0_; have BK128 := n1_; have HB := n2_; clear n0_ n1_ n2_; (try clear hb); (try clear hb2); (try clear hk); (try clear hi)))
           go_meet
           case rel => exact ⟨_, (decide (t130 < x32_1)), (by first | rfl | (simp; done) | (simp [*]; done)), H', ⟨by have := HK1.out; first | omega | exact Nat.le_refl _⟩, ⟨by (with_reducible repeat (first | refine blk_drewN ?_ _ | refine blk_drew ?_ | refine blk_alloc ?_ _)); exact BK125.out⟩, ⟨by (with_reducible repeat (first | refine blk_drewN ?_ _ | refine blk_drew ?_ | refine blk_alloc ?_ _)); exact BK128.out⟩, ⟨bb⟩⟩
          ·replace c26 := Bool.eq_false_iff.mpr c26
           subst c26
           have H1 : (graph_Check.j1 k1 x32_1 l0_1 (l0_1.length : Int) x32_1 true a0_0 l0_1 ((rd_T48 l0_1 x32_1).f0) ((rd_T48 l0_1 x32_1).f1) ((rd_T48 l0_1 x32_1).f2) ((rd_T48 l0_1 x32_1).f3) ((rd_T48 l0_1 x32_1).f4) ((rd_T48 l0_1 x32_1).f5)) = some (r1, r2) := by rw [if_neg (show ¬ (false = true) by decide)] at H; exact H
           clear H
           have H := H1
           clear H1
           have H' := Aside0.mk H
           clear H
           have hnb34 := NB128_125.out
           have hnc34 := NB125_128.out
           have hcz35_0 : w22.cell? ⟨gb128, 0, none⟩ = some (.string (⟨#[]⟩ : ByteArray)) := (blk_cell BK128.out 0).trans rfl
           have hcz35_1 : w22.cell? ⟨gb128, 1, none⟩ = some (.slice none 0 0) := (blk_cell BK128.out 1).trans rfl
           have hcz35_2 : w22.cell? ⟨gb128, 2, none⟩ = some (.int .i64 0) := (blk_cell BK128.out 2).trans rfl
           have hcz35_3 : w22.cell? ⟨gb128, 3, none⟩ = some (.int .i64 0) := (blk_cell BK128.out 3).trans rfl
           have hcz35_4 : w22.cell? ⟨gb128, 4, none⟩ = some (.int .i64 0) := (blk_cell BK128.out 4).trans rfl
           have hcz35_5 : w22.cell? ⟨gb128, 5, none⟩ = some (.string (⟨#[]⟩ : ByteArray)) := (blk_cell BK128.out 5).trans rfl
           have hfz35_0 := blk_frozen BK128.out 0
           have hfz35_1 := blk_frozen BK128.out 1
           have hfz35_2 := blk_frozen BK128.out 2
           have hfz35_3 := blk_frozen BK128.out 3
           have hfz35_4 := blk_frozen BK128.out 4
           have hfz35_5 := blk_frozen BK128.out 5
           go_wp2_with (first | ((with_reducible refine gate_callee (f := 49) rfl ?_); refine goesL_ (some 39) rfl rfl Try.func49 (by kernel_rfl) rfl #[.string ((rd_T48 l0_1 x32_1).f0)] rfl ag ?_; (with_reducible refine (grant_Named.calls ((rd_T48 l0_1 x32_1).f0) false _ A25.out).mono ?_); rintro e w36 ⟨rfl, hb⟩; refine ⟨_, rfl, ?_⟩; have n0_ := Aside0.mk (blk_below (rb (blk_far (rb (blk_far (rb (blk_far (rb (blk_far (rb (blk_far (rb (blk_far (rb BK125.out) NB125_128.out _)) NB125_128.out _)) NB125_128.out _)) NB125_128.out _)) NB125_128.out _)) NB125_128.out _)) hb); have n1_ := Aside0.mk (blk_below (rb (blk_put (cs := #[.string ((rd_T48 l0_1 x32_1).f0), .slice A127_1 ((rd_T48 l0_1 x32_1).f1).length c127_1, .int .i64 ((rd_T48 l0_1 x32_1).f2), .int .i64 ((rd_T48 l0_1 x32_1).f3), .int .i64 ((rd_T48 l0_1 x32_1).f4), .string (⟨#[]⟩ : ByteArray)]) (rb (blk_put (cs := #[.string ((rd_T48 l0_1 x32_1).f0), .slice A127_1 ((rd_T48 l0_1 x32_1).f1).length c127_1, .int .i64 ((rd_T48 l0_1 x32_1).f2), .int .i64 ((rd_T48 l0_1 x32_1).f3), .int .i64 0, .string (⟨#[]⟩ : ByteArray)]) (rb (blk_put (cs := #[.string ((rd_T48 l0_1 x32_1).f0), .slice A127_1 ((rd_T48 l0_1 x32_1).f1).length c127_1, .int .i64 ((rd_T48 l0_1 x32_1).f2), .int .i64 0, .int .i64 0, .string (⟨#[]⟩ : ByteArray)]) (rb (blk_put (cs := #[.string ((rd_T48 l0_1 x32_1).f0), .slice A127_1 ((rd_T48 l0_1 x32_1).f1).length c127_1, .int .i64 0, .int .i64 0, .int .i64 0, .string (⟨#[]⟩ : ByteArray)]) (rb (blk_put (cs := #[.string ((rd_T48 l0_1 x32_1).f0), .slice none 0 0, .int .i64 0, .int .i64 0, .int .i64 0, .string (⟨#[]⟩ : ByteArray)]) (rb (blk_put (cs := #[.string (⟨#[]⟩ : ByteArray), .slice none 0 0, .int .i64 0, .int .i64 0, .int .i64 0, .string (⟨#[]⟩ : ByteArray)]) (rb BK128.out) 0 _ rfl)) 1 _ rfl)) 2 _ rfl)) 3 _ rfl)) 4 _ rfl)) 5 _ rfl)) hb); have n2_ := Aside0.mk (below_step bb hb); clear BK125; clear BK128; clear HB; have BK125 := n0_; have BK128 := n1_; have HB := n2_; clear n0_ n1_ n2_; (try clear hb); (try clear hb2); (try clear hk); (try clear hi)))
           go_meet
           case rel => exact ⟨_, (true), (by first | rfl | (simp; done) | (simp [*]; done)), H', ⟨by have := HK1.out; first | omega | exact Nat.le_refl _⟩, ⟨by (with_reducible repeat (first | refine blk_drewN ?_ _ | refine blk_drew ?_ | refine blk_alloc ?_ _)); exact BK125.out⟩, ⟨by (with_reducible repeat (first | refine blk_drewN ?_ _ | refine blk_drew ?_ | refine blk_alloc ?_ _)); exact BK128.out⟩, ⟨bb⟩⟩
         case rest =>
          clear HC21
          try clear c1
          try clear p1
          try clear q1
          try clear hx1
          try clear c2
          try clear p2
          try clear c3
          try clear c4
          try clear c4b0
          try clear c4b1
          try clear c9
          try clear c9b0
          try clear c9b1
          try clear c12
          try clear p12
          try clear q12
          try clear hx12
          try clear c15
          try clear c18
          try clear c18b0
          try clear c19
          try clear c19b0
          try clear c20
          try clear c20b0
          try clear c23
          try clear c26
          try clear c28
          try clear c34
          try clear hcz11_0
          try clear hcz11_1
          try clear hcz13_0
          try clear hcz13_1
          try clear hcz15_0
          try clear hcz15_1
          try clear hcz17_0
          try clear hcz17_1
          try clear hcz24_0
          try clear hcz24_1
          try clear hcz24_2
          try clear hcz24_3
          try clear hcz24_4
          try clear hcz24_5
          try clear hcz29_0
          try clear hcz29_1
          try clear hcz29_2
          try clear hcz29_3
          try clear hcz29_4
          try clear hcz29_5
          try clear hcz31_0
          try clear hcz31_1
          try clear hcz32_0
          try clear hcz32_1
          try clear hcz32_2
          try clear hcz32_3
          try clear hcz32_4
          try clear hcz32_5
          try clear hcz35_0
          try clear hcz35_1
          try clear hcz35_2
          try clear hcz35_3
          try clear hcz35_4
          try clear hcz35_5
          try clear hcz6_0
          try clear hcz6_1
          try clear hcz8_0
          try clear hcz8_1
          try clear hfz11_0
          try clear hfz11_1
          try clear hfz13_0
          try clear hfz13_1
          try clear hfz15_0
          try clear hfz15_1
          try clear hfz17_0
          try clear hfz17_1
          try clear hfz24_0
          try clear hfz24_1
          try clear hfz24_2
          try clear hfz24_3
          try clear hfz24_4
          try clear hfz24_5
          try clear hfz29_0
          try clear hfz29_1
          try clear hfz29_2
          try clear hfz29_3
          try clear hfz29_4
          try clear hfz29_5
          try clear hfz31_0
          try clear hfz31_1
          try clear hfz32_0
          try clear hfz32_1
          try clear hfz32_2
          try clear hfz32_3
          try clear hfz32_4
          try clear hfz32_5
          try clear hfz35_0
          try clear hfz35_1
          try clear hfz35_2
          try clear hfz35_3
          try clear hfz35_4
          try clear hfz35_5
          try clear hfz6_0
          try clear hfz6_1
          try clear hfz8_0
          try clear hfz8_1
          try clear hx127_0
          try clear hx127_1
          try clear hx127_2
          try clear hx127_3
          try clear hx127_4
          try clear hx127_5
          try clear p127
          try clear p2
          try clear q127
          obtain ⟨kq, x48_20, rfl, HA, HJ20, BK125, BK128, HB⟩ := hcut
          cases kq with
          | zero => exact absurd HA.out (by simp [graph_Check.j1])
          | succ kj20 =>
           have H := HA.out
           clear HA
           simp only [graph_Check.j1] at H
           by_cases c37 : x48_20 = true
           ·subst c37
            have H1 : (some (x32_1, 30)) = some (r1, r2) := by rw [if_pos rfl] at H; exact H
            clear H
            have H := H1
            clear H1
            simp only [Option.some.injEq, Prod.mk.injEq] at H
            obtain ⟨rfl, rfl⟩ := H
            go_wp2
            go_ret2
            exact ⟨by first | rfl | (simp [errW_none, errW_some] <;> rfl) | (simp [*, errW_none, errW_some] <;> rfl), bb⟩
           ·replace c37 := Bool.eq_false_iff.mpr c37
            subst c37
            have H1 : ((graph_Node_check.f kj20 ((rd_T48 l0_1 x32_1).f0) ((rd_T48 l0_1 x32_1).f1) ((rd_T48 l0_1 x32_1).f2) ((rd_T48 l0_1 x32_1).f3) ((rd_T48 l0_1 x32_1).f4) ((rd_T48 l0_1 x32_1).f5)).bind fun t131 => (if t131 = 0 then (graph_Check.l0 kj20 l0_1 (l0_1.length : Int) (wrap64 (x32_1 + 1)) a0_0 l0_1) else (some (x32_1, t131)))) = some (r1, r2) := by rw [if_neg (show ¬ (false = true) by decide)] at H; exact H
            clear H
            have H := H1
            clear H1
            replace H := Option.bind_eq_some_iff.mp H
            obtain ⟨t131, A380, H⟩ := H
            replace H : (if t131 = 0 then (graph_Check.l0 kj20 l0_1 (l0_1.length : Int) (wrap64 (x32_1 + 1)) a0_0 l0_1) else (some (x32_1, t131))) = some (r1, r2) := H
            have A38 := Aside0.mk A380
            clear A380
            by_cases c39 : t131 = 0
            ·rw [if_pos c39] at H
             have c39b0 : (t131 == 0) = true := beq_iff_eq.mpr c39
             have c39b1 : (t131 != 0) = false := bne_eq_false_iff_eq.mpr c39
             clear c39
             have H' := Aside0.mk H
             clear H
             have hnb40 := NB128_125.out
             have hnc40 := NB125_128.out
             have hcz41_0 : wc.cell? ⟨gb128, 0, none⟩ = some (.string ((rd_T48 l0_1 x32_1).f0)) := (blk_cell BK128.out 0).trans rfl
             have hcz41_1 : wc.cell? ⟨gb128, 1, none⟩ = some (.slice A127_1 ((rd_T48 l0_1 x32_1).f1).length c127_1) := (blk_cell BK128.out 1).trans rfl
             have hcz41_2 : wc.cell? ⟨gb128, 2, none⟩ = some (.int .i64 ((rd_T48 l0_1 x32_1).f2)) := (blk_cell BK128.out 2).trans rfl
             have hcz41_3 : wc.cell? ⟨gb128, 3, none⟩ = some (.int .i64 ((rd_T48 l0_1 x32_1).f3)) := (blk_cell BK128.out 3).trans rfl
             have hcz41_4 : wc.cell? ⟨gb128, 4, none⟩ = some (.int .i64 ((rd_T48 l0_1 x32_1).f4)) := (blk_cell BK128.out 4).trans rfl
             have hcz41_5 : wc.cell? ⟨gb128, 5, none⟩ = some (.string ((rd_T48 l0_1 x32_1).f5)) := (blk_cell BK128.out 5).trans rfl
             have hfz41_0 := blk_frozen BK128.out 0
             have hfz41_1 := blk_frozen BK128.out 1
             have hfz41_2 := blk_frozen BK128.out 2
             have hfz41_3 := blk_frozen BK128.out 3
             have hfz41_4 := blk_frozen BK128.out 4
             have hfz41_5 := blk_frozen BK128.out 5
             go_wp2_with (first | ((with_reducible refine gate_callee (f := 51) rfl ?_); refine goesL_ (some 51) rfl rfl Try.func51 (by kernel_rfl) rfl #[.agg #[.string ((rd_T48 l0_1 x32_1).f0), .slice A127_1 ((rd_T48 l0_1 x32_1).f1).length c127_1, .int .i64 ((rd_T48 l0_1 x32_1).f2), .int .i64 ((rd_T48 l0_1 x32_1).f3), .int .i64 ((rd_T48 l0_1 x32_1).f4), .string ((rd_T48 l0_1 x32_1).f5)]] rfl ag ?_; (with_reducible refine (graph_Node_check.calls kj20 ((rd_T48 l0_1 x32_1).f0) _ _ ((rd_T48 l0_1 x32_1).f1) ((rd_T48 l0_1 x32_1).f2) ((rd_T48 l0_1 x32_1).f3) ((rd_T48 l0_1 x32_1).f4) ((rd_T48 l0_1 x32_1).f5) t131 _ ?side1 ?side2 A38.out).mono ?_); (case side1 => repeat (first | exact (Kd.C_below HR127_1.out HB.out) | (with_reducible refine Kd.C_alloc ?_ _) | (with_reducible refine Kd.C_drewN ?_ _) | (with_reducible refine Kd.C_drew ?_))); (case side2 => exact HC127_1.out); rintro e w42 ⟨rfl, hb⟩; refine ⟨_, rfl, ?_⟩; have n0_ := Aside0.mk (blk_below (rb BK125.out) hb); have n1_ := Aside0.mk (blk_below (rb BK128.out) hb); have n2_ := Aside0.mk (below_step bb hb); clear BK125; clear BK128; clear HB; have BK125 := n0_; have BK128 := n1_; have HB := n2_; clear n0_ n1_ n2_; (try clear hb); (try clear hb2); (try clear hk); (try clear hi)))
             go_roundg kj20
             case measure => have := HK1.out; have := HJ20.out; omega
             case rel => exact ⟨(wrap64 (x32_1 + 1)), (by first | rfl | (simp; done) | (simp [*]; done)), H', ⟨by have := HK1.out; have := HJ20.out; omega⟩, ⟨by (with_reducible repeat (first | refine blk_drewN ?_ _ | refine blk_drew ?_ | refine blk_alloc ?_ _)); exact BK125.out⟩, ⟨bb⟩⟩
            ·rw [if_neg c39] at H
             have c39b0 : (t131 == 0) = false := beq_eq_false_iff_ne.mpr c39
             have c39b1 : (t131 != 0) = true := bne_iff_ne.mpr c39
             simp only [Option.some.injEq, Prod.mk.injEq] at H
             obtain ⟨rfl, rfl⟩ := H
             have hnb43 := NB128_125.out
             have hnc43 := NB125_128.out
             have hcz44_0 : wc.cell? ⟨gb128, 0, none⟩ = some (.string ((rd_T48 l0_1 x32_1).f0)) := (blk_cell BK128.out 0).trans rfl
             have hcz44_1 : wc.cell? ⟨gb128, 1, none⟩ = some (.slice A127_1 ((rd_T48 l0_1 x32_1).f1).length c127_1) := (blk_cell BK128.out 1).trans rfl
             have hcz44_2 : wc.cell? ⟨gb128, 2, none⟩ = some (.int .i64 ((rd_T48 l0_1 x32_1).f2)) := (blk_cell BK128.out 2).trans rfl
             have hcz44_3 : wc.cell? ⟨gb128, 3, none⟩ = some (.int .i64 ((rd_T48 l0_1 x32_1).f3)) := (blk_cell BK128.out 3).trans rfl
             have hcz44_4 : wc.cell? ⟨gb128, 4, none⟩ = some (.int .i64 ((rd_T48 l0_1 x32_1).f4)) := (blk_cell BK128.out 4).trans rfl
             have hcz44_5 : wc.cell? ⟨gb128, 5, none⟩ = some (.string ((rd_T48 l0_1 x32_1).f5)) := (blk_cell BK128.out 5).trans rfl
             have hfz44_0 := blk_frozen BK128.out 0
             have hfz44_1 := blk_frozen BK128.out 1
             have hfz44_2 := blk_frozen BK128.out 2
             have hfz44_3 := blk_frozen BK128.out 3
             have hfz44_4 := blk_frozen BK128.out 4
             have hfz44_5 := blk_frozen BK128.out 5
             go_wp2_with (first | ((with_reducible refine gate_callee (f := 51) rfl ?_); refine goesL_ (some 51) rfl rfl Try.func51 (by kernel_rfl) rfl #[.agg #[.string ((rd_T48 l0_1 x32_1).f0), .slice A127_1 ((rd_T48 l0_1 x32_1).f1).length c127_1, .int .i64 ((rd_T48 l0_1 x32_1).f2), .int .i64 ((rd_T48 l0_1 x32_1).f3), .int .i64 ((rd_T48 l0_1 x32_1).f4), .string ((rd_T48 l0_1 x32_1).f5)]] rfl ag ?_; (with_reducible refine (graph_Node_check.calls kj20 ((rd_T48 l0_1 x32_1).f0) _ _ ((rd_T48 l0_1 x32_1).f1) ((rd_T48 l0_1 x32_1).f2) ((rd_T48 l0_1 x32_1).f3) ((rd_T48 l0_1 x32_1).f4) ((rd_T48 l0_1 x32_1).f5) t131 _ ?side1 ?side2 A38.out).mono ?_); (case side1 => repeat (first | exact (Kd.C_below HR127_1.out HB.out) | (with_reducible refine Kd.C_alloc ?_ _) | (with_reducible refine Kd.C_drewN ?_ _) | (with_reducible refine Kd.C_drew ?_))); (case side2 => exact HC127_1.out); rintro e w45 ⟨rfl, hb⟩; refine ⟨_, rfl, ?_⟩; have n0_ := Aside0.mk (blk_below (rb BK125.out) hb); have n1_ := Aside0.mk (blk_below (rb BK128.out) hb); have n2_ := Aside0.mk (below_step bb hb); clear BK125; clear BK128; clear HB; have BK125 := n0_; have BK128 := n1_; have HB := n2_; clear n0_ n1_ n2_; (try clear hb); (try clear hb2); (try clear hk); (try clear hi)))
             go_ret2
             exact ⟨by first | rfl | (simp [errW_none, errW_some] <;> rfl) | (simp [*, errW_none, errW_some] <;> rfl), bb⟩
        ·rw [if_neg c20] at H
         exact absurd H (by simp)
       ·rw [if_neg c19] at H
        exact absurd H (by simp)
      ·rw [if_neg c18] at H
       have c18b0 : decide (x32_1 < (l0_1.length : Int)) = false := decide_eq_false c18
       clear c18
       have H' := Aside0.mk H
       clear H
       have hcz46_0 : wr.cell? ⟨gb125, 0, none⟩ = some (.string a0_0) := (blk_cell BK125.out 0).trans rfl
       have hcz46_1 : wr.cell? ⟨gb125, 1, none⟩ = some (.slice A0_1 l0_1.length c0_1) := (blk_cell BK125.out 1).trans rfl
       have hfz46_0 := blk_frozen BK125.out 0
       have hfz46_1 := blk_frozen BK125.out 1
       go_wp2
       go_loopg [60] k1 (fun kq v60 w' => ∃ (x60_2 : Int), v60 = .int .i64 x60_2 ∧ Aside0 (graph_Check.l1 kq l0_1 (l0_1.length : Int) x60_2 a0_0 l0_1 = some (r1, r2)) ∧ Aside0 (kq ≤ k1) ∧ Aside0 (w'.heap[gb125]? = some (.cells #[.string a0_0, (.slice A0_1 l0_1.length c0_1)] 27 (0, 0))) ∧ Aside0 (Below w.heap.size w w'))
       case atStart => exact ⟨(0), (by first | rfl | (simp; done) | (simp [*]; done)), H', ⟨Nat.le_refl _⟩, ⟨by (with_reducible repeat (first | refine blk_drewN ?_ _ | refine blk_drew ?_ | refine blk_alloc ?_ _)); exact BK125.out⟩, ⟨bb⟩⟩
       case round =>
        clear H'
        try clear c1
        try clear p1
        try clear q1
        try clear hx1
        try clear c2
        try clear p2
        try clear c3
        try clear c4
        try clear c4b0
        try clear c4b1
        try clear c5
        try clear p6
        try clear c9
        try clear c9b0
        try clear c9b1
        try clear c12
        try clear p12
        try clear q12
        try clear hx12
        try clear c15
        try clear c18
        try clear c18b0
        try clear c19
        try clear c19b0
        try clear c20
        try clear c20b0
        try clear c23
        try clear c26
        try clear c28
        try clear c34
        try clear c37
        try clear c39
        try clear c39b0
        try clear c39b1
        try clear c40
        try clear c43
        try clear hcz11_0
        try clear hcz11_1
        try clear hcz13_0
        try clear hcz13_1
        try clear hcz15_0
        try clear hcz15_1
        try clear hcz17_0
        try clear hcz17_1
        try clear hcz24_0
        try clear hcz24_1
        try clear hcz24_2
        try clear hcz24_3
        try clear hcz24_4
        try clear hcz24_5
        try clear hcz29_0
        try clear hcz29_1
        try clear hcz29_2
        try clear hcz29_3
        try clear hcz29_4
        try clear hcz29_5
        try clear hcz31_0
        try clear hcz31_1
        try clear hcz32_0
        try clear hcz32_1
        try clear hcz32_2
        try clear hcz32_3
        try clear hcz32_4
        try clear hcz32_5
        try clear hcz35_0
        try clear hcz35_1
        try clear hcz35_2
        try clear hcz35_3
        try clear hcz35_4
        try clear hcz35_5
        try clear hcz41_0
        try clear hcz41_1
        try clear hcz41_2
        try clear hcz41_3
        try clear hcz41_4
        try clear hcz41_5
        try clear hcz44_0
        try clear hcz44_1
        try clear hcz44_2
        try clear hcz44_3
        try clear hcz44_4
        try clear hcz44_5
        try clear hcz46_0
        try clear hcz46_1
        try clear hcz6_0
        try clear hcz6_1
        try clear hcz8_0
        try clear hcz8_1
        try clear hfz11_0
        try clear hfz11_1
        try clear hfz13_0
        try clear hfz13_1
        try clear hfz15_0
        try clear hfz15_1
        try clear hfz17_0
        try clear hfz17_1
        try clear hfz24_0
        try clear hfz24_1
        try clear hfz24_2
        try clear hfz24_3
        try clear hfz24_4
        try clear hfz24_5
        try clear hfz29_0
        try clear hfz29_1
        try clear hfz29_2
        try clear hfz29_3
        try clear hfz29_4
        try clear hfz29_5
        try clear hfz31_0
        try clear hfz31_1
        try clear hfz32_0
        try clear hfz32_1
        try clear hfz32_2
        try clear hfz32_3
        try clear hfz32_4
        try clear hfz32_5
        try clear hfz35_0
        try clear hfz35_1
        try clear hfz35_2
        try clear hfz35_3
        try clear hfz35_4
        try clear hfz35_5
        try clear hfz41_0
        try clear hfz41_1
        try clear hfz41_2
        try clear hfz41_3
        try clear hfz41_4
        try clear hfz41_5
        try clear hfz44_0
        try clear hfz44_1
        try clear hfz44_2
        try clear hfz44_3
        try clear hfz44_4
        try clear hfz44_5
        try clear hfz46_0
        try clear hfz46_1
        try clear hfz6_0
        try clear hfz6_1
        try clear hfz8_0
        try clear hfz8_1
        try clear hx127_0
        try clear hx127_1
        try clear hx127_2
        try clear hx127_3
        try clear hx127_4
        try clear hx127_5
        try clear p1
        try clear p12
        try clear p127
        try clear p2
        try clear q1
        try clear q12
        try clear q127
        obtain ⟨x60_2, rfl, HA, HK2, BK125, HB⟩ := hrel
        cases gk with
        | zero => exact absurd HA.out (by simp [graph_Check.l1])
        | succ k2 =>
         have H := HA.out
         clear HA
         simp only [graph_Check.l1] at H
         by_cases c47 : x60_2 < (l0_1.length : Int)
         ·rw [if_pos c47] at H
          have c47b0 : decide (x60_2 < (l0_1.length : Int)) = true := decide_eq_true c47
          clear c47
          by_cases c48 : 0 ≤ x60_2
          ·rw [if_pos c48] at H
           have c48b0 : decide (0 ≤ x60_2) = true := decide_eq_true c48
           clear c48
           by_cases c49 : x60_2 < (l0_1.length : Int)
           ·rw [if_pos c49] at H
            have c49b0 : decide (x60_2 < (l0_1.length : Int)) = true := decide_eq_true c49
            clear c49
            have H' := Aside0.mk H
            clear H
            have p132 : 0 ≤ (x60_2 : Int) := of_decide_eq_true (by first | (with_reducible assumption) | assumption)
            have q132 : x60_2 < (l0_1.length : Int) := of_decide_eq_true (by first | (with_reducible assumption) | assumption)
            obtain ⟨ad132, A132_1, c132_1, e132, hx132_0, hx132_1, hx132_2, hx132_3, hx132_4, hx132_5, hl132_1, hi132_1⟩ := at_T48 HR0_1.out x60_2 p132 q132
            cases e132
            replace hx132_0 := (HB.out.cell (World.block_lt_of_cell? w _ hx132_0)).trans hx132_0
            replace hx132_1 := (HB.out.cell (World.block_lt_of_cell? w _ hx132_1)).trans hx132_1
            replace hx132_2 := (HB.out.cell (World.block_lt_of_cell? w _ hx132_2)).trans hx132_2
            replace hx132_3 := (HB.out.cell (World.block_lt_of_cell? w _ hx132_3)).trans hx132_3
            replace hx132_4 := (HB.out.cell (World.block_lt_of_cell? w _ hx132_4)).trans hx132_4
            replace hx132_5 := (HB.out.cell (World.block_lt_of_cell? w _ hx132_5)).trans hx132_5
            have HR132_1 := Aside0.mk hi132_1
            have HC132_1 := Aside0.mk hl132_1
            clear hi132_1 hl132_1
            replace p132 := eq_true p132
            replace q132 := eq_true q132
            go_wp2_with (first | ((with_reducible refine gate_dst (N := 8) rfl ?_); (try (refine gate_guard (by rfl) ?_; dsimp only)); refine box_event ?hg (N := 8) ?hd (cs := #[.string (⟨#[]⟩ : ByteArray), .slice none 0 0, .int .i64 0, .int .i64 0, .int .i64 0, .string (⟨#[]⟩ : ByteArray)]) (t := 48) ?hr ?_; (case hd => rfl); (case hg => rfl); (case hr => first | (go_simp; done) | (go_simp; rfl)); intro gb133 hg w50 hbox hb; have n0_ := Aside0.mk (blk_below (rb BK125.out) hb); have n1_ := Aside0.mk (below_step bb hb); have n2_ := Aside0.mk (hbox); have n3_ := Aside0.mk ((by rw [hg]; exact (below_size bb) : w.heap.size ≤ gb133)); have n4_ := Aside0.mk ((by rw [hg]; exact (below_size bb) : w.heap.size ≤ gb133)); have n5_ := Aside0.mk ((by rw [hg]; exact Nat.ne_of_lt (blk_lt (rb BK125.out)) : gb125 ≠ gb133)); have n6_ := Aside0.mk ((by rw [hg]; exact Nat.ne_of_gt (blk_lt (rb BK125.out)) : gb133 ≠ gb125)); clear BK125; clear HB; have BK125 := n0_; have HB := n1_; have BK133 := n2_; have GW133 := n3_; have GE133 := n4_; have NB125_133 := n5_; have NB133_125 := n6_; clear n0_ n1_ n2_ n3_ n4_ n5_ n6_; clear hb hbox hg; have hnb51 := NB133_125.out; have hnc51 := NB125_133.out; have hcz52_0 : w50.cell? ⟨gb133, 0, none⟩ = some (.string (⟨#[]⟩ : ByteArray)) := (blk_cell BK133.out 0).trans rfl; have hcz52_1 : w50.cell? ⟨gb133, 1, none⟩ = some (.slice none 0 0) := (blk_cell BK133.out 1).trans rfl; have hcz52_2 : w50.cell? ⟨gb133, 2, none⟩ = some (.int .i64 0) := (blk_cell BK133.out 2).trans rfl; have hcz52_3 : w50.cell? ⟨gb133, 3, none⟩ = some (.int .i64 0) := (blk_cell BK133.out 3).trans rfl; have hcz52_4 : w50.cell? ⟨gb133, 4, none⟩ = some (.int .i64 0) := (blk_cell BK133.out 4).trans rfl; have hcz52_5 : w50.cell? ⟨gb133, 5, none⟩ = some (.string (⟨#[]⟩ : ByteArray)) := (blk_cell BK133.out 5).trans rfl; have hfz52_0 := blk_frozen BK133.out 0; have hfz52_1 := blk_frozen BK133.out 1; have hfz52_2 := blk_frozen BK133.out 2; have hfz52_3 := blk_frozen BK133.out 3; have hfz52_4 := blk_frozen BK133.out 4; have hfz52_5 := blk_frozen BK133.out 5))
            go_loopg [68] k2 (fun kq v68 w' => ∃ (x68_3 : Int), v68 = .int .i64 x68_3 ∧ Aside0 (graph_Check.l2 kq x60_2 l0_1 (l0_1.length : Int) x60_2 ((rd_T48 l0_1 x60_2).f1) (((rd_T48 l0_1 x60_2).f1).length : Int) x68_3 a0_0 l0_1 ((rd_T48 l0_1 x60_2).f0) ((rd_T48 l0_1 x60_2).f1) ((rd_T48 l0_1 x60_2).f2) ((rd_T48 l0_1 x60_2).f3) ((rd_T48 l0_1 x60_2).f4) ((rd_T48 l0_1 x60_2).f5) = some (r1, r2)) ∧ Aside0 (kq ≤ k2) ∧ Aside0 (w'.heap[gb125]? = some (.cells #[.string a0_0, (.slice (some ad132) l0_1.length c0_1)] 27 (0, 0))) ∧ Aside0 (w'.heap[gb133]? = some (.cells #[.string ((rd_T48 l0_1 x60_2).f0), (.slice A132_1 ((rd_T48 l0_1 x60_2).f1).length c132_1), .int .i64 ((rd_T48 l0_1 x60_2).f2), .int .i64 ((rd_T48 l0_1 x60_2).f3), .int .i64 ((rd_T48 l0_1 x60_2).f4), .string ((rd_T48 l0_1 x60_2).f5)] 48 (0, 0))) ∧ Aside0 (Below w.heap.size w w'))
            case atStart => exact ⟨(0), (by first | rfl | (simp; done) | (simp [*]; done)), H', ⟨Nat.le_refl _⟩, ⟨by (with_reducible repeat (first | refine blk_drewN ?_ _ | refine blk_drew ?_ | refine blk_alloc ?_ _)); refine blk_far ?_ NB125_133.out _; (with_reducible repeat (first | refine blk_drewN ?_ _ | refine blk_drew ?_ | refine blk_alloc ?_ _)); refine blk_far ?_ NB125_133.out _; (with_reducible repeat (first | refine blk_drewN ?_ _ | refine blk_drew ?_ | refine blk_alloc ?_ _)); refine blk_far ?_ NB125_133.out _; (with_reducible repeat (first | refine blk_drewN ?_ _ | refine blk_drew ?_ | refine blk_alloc ?_ _)); refine blk_far ?_ NB125_133.out _; (with_reducible repeat (first | refine blk_drewN ?_ _ | refine blk_drew ?_ | refine blk_alloc ?_ _)); refine blk_far ?_ NB125_133.out _; (with_reducible repeat (first | refine blk_drewN ?_ _ | refine blk_drew ?_ | refine blk_alloc ?_ _)); refine blk_far ?_ NB125_133.out _; (with_reducible repeat (first | refine blk_drewN ?_ _ | refine blk_drew ?_ | refine blk_alloc ?_ _)); exact BK125.out⟩, ⟨by (with_reducible repeat (first | refine blk_drewN ?_ _ | refine blk_drew ?_ | refine blk_alloc ?_ _)); refine blk_put (cs := #[.string ((rd_T48 l0_1 x60_2).f0), .slice A132_1 ((rd_T48 l0_1 x60_2).f1).length c132_1, .int .i64 ((rd_T48 l0_1 x60_2).f2), .int .i64 ((rd_T48 l0_1 x60_2).f3), .int .i64 ((rd_T48 l0_1 x60_2).f4), .string (⟨#[]⟩ : ByteArray)]) ?_ 5 _ rfl; (with_reducible repeat (first | refine blk_drewN ?_ _ | refine blk_drew ?_ | refine blk_alloc ?_ _)); refine blk_put (cs := #[.string ((rd_T48 l0_1 x60_2).f0), .slice A132_1 ((rd_T48 l0_1 x60_2).f1).length c132_1, .int .i64 ((rd_T48 l0_1 x60_2).f2), .int .i64 ((rd_T48 l0_1 x60_2).f3), .int .i64 0, .string (⟨#[]⟩ : ByteArray)]) ?_ 4 _ rfl; (with_reducible repeat (first | refine blk_drewN ?_ _ | refine blk_drew ?_ | refine blk_alloc ?_ _)); refine blk_put (cs := #[.string ((rd_T48 l0_1 x60_2).f0), .slice A132_1 ((rd_T48 l0_1 x60_2).f1).length c132_1, .int .i64 ((rd_T48 l0_1 x60_2).f2), .int .i64 0, .int .i64 0, .string (⟨#[]⟩ : ByteArray)]) ?_ 3 _ rfl; (with_reducible repeat (first | refine blk_drewN ?_ _ | refine blk_drew ?_ | refine blk_alloc ?_ _)); refine blk_put (cs := #[.string ((rd_T48 l0_1 x60_2).f0), .slice A132_1 ((rd_T48 l0_1 x60_2).f1).length c132_1, .int .i64 0, .int .i64 0, .int .i64 0, .string (⟨#[]⟩ : ByteArray)]) ?_ 2 _ rfl; (with_reducible repeat (first | refine blk_drewN ?_ _ | refine blk_drew ?_ | refine blk_alloc ?_ _)); refine blk_put (cs := #[.string ((rd_T48 l0_1 x60_2).f0), .slice none 0 0, .int .i64 0, .int .i64 0, .int .i64 0, .string (⟨#[]⟩ : ByteArray)]) ?_ 1 _ rfl; (with_reducible repeat (first | refine blk_drewN ?_ _ | refine blk_drew ?_ | refine blk_alloc ?_ _)); refine blk_put (cs := #[.string (⟨#[]⟩ : ByteArray), .slice none 0 0, .int .i64 0, .int .i64 0, .int .i64 0, .string (⟨#[]⟩ : ByteArray)]) ?_ 0 _ rfl; (with_reducible repeat (first | refine blk_drewN ?_ _ | refine blk_drew ?_ | refine blk_alloc ?_ _)); exact BK133.out⟩, ⟨bb⟩⟩
            case round =>
             clear H'
             try clear c1
             try clear p1
             try clear q1
             try clear hx1
             try clear c2
             try clear p2
             try clear c3
             try clear c4
             try clear c4b0
             try clear c4b1
             try clear c5
             try clear p6
             try clear c9
             try clear c9b0
             try clear c9b1
             try clear c12
             try clear p12
             try clear q12
             try clear hx12
             try clear c13
             try clear p13
             try clear q13
             try clear hx13
             try clear c15
             try clear c18
             try clear c18b0
             try clear c19
             try clear c19b0
             try clear c20
             try clear c20b0
             try clear c23
             try clear c26
             try clear c28
             try clear c34
             try clear c37
             try clear c39
             try clear c39b0
             try clear c39b1
             try clear c40
             try clear c43
             try clear c47
             try clear c47b0
             try clear c48
             try clear c48b0
             try clear c49
             try clear c49b0
             try clear c51
             try clear hcz11_0
             try clear hcz11_1
             try clear hcz13_0
             try clear hcz13_1
             try clear hcz15_0
             try clear hcz15_1
             try clear hcz17_0
             try clear hcz17_1
             try clear hcz24_0
             try clear hcz24_1
             try clear hcz24_2
             try clear hcz24_3
             try clear hcz24_4
             try clear hcz24_5
             try clear hcz29_0
             try clear hcz29_1
             try clear hcz29_2
             try clear hcz29_3
             try clear hcz29_4
             try clear hcz29_5
             try clear hcz31_0
             try clear hcz31_1
             try clear hcz32_0
             try clear hcz32_1
             try clear hcz32_2
             try clear hcz32_3
             try clear hcz32_4
             try clear hcz32_5
             try clear hcz35_0
             try clear hcz35_1
             try clear hcz35_2
             try clear hcz35_3
             try clear hcz35_4
             try clear hcz35_5
             try clear hcz41_0
             try clear hcz41_1
             try clear hcz41_2
             try clear hcz41_3
             try clear hcz41_4
             try clear hcz41_5
             try clear hcz44_0
             try clear hcz44_1
             try clear hcz44_2
             try clear hcz44_3
             try clear hcz44_4
             try clear hcz44_5
             try clear hcz46_0
             try clear hcz46_1
             try clear hcz52_0
             try clear hcz52_1
             try clear hcz52_2
             try clear hcz52_3
             try clear hcz52_4
             try clear hcz52_5
             try clear hcz6_0
             try clear hcz6_1
             try clear hcz8_0
             try clear hcz8_1
             try clear hfz11_0
             try clear hfz11_1
             try clear hfz13_0
             try clear hfz13_1
             try clear hfz15_0
             try clear hfz15_1
             try clear hfz17_0
             try clear hfz17_1
             try clear hfz24_0
             try clear hfz24_1
             try clear hfz24_2
             try clear hfz24_3
             try clear hfz24_4
             try clear hfz24_5
             try clear hfz29_0
             try clear hfz29_1
             try clear hfz29_2
             try clear hfz29_3
             try clear hfz29_4
             try clear hfz29_5
             try clear hfz31_0
             try clear hfz31_1
             try clear hfz32_0
             try clear hfz32_1
             try clear hfz32_2
             try clear hfz32_3
             try clear hfz32_4
             try clear hfz32_5
             try clear hfz35_0
             try clear hfz35_1
             try clear hfz35_2
             try clear hfz35_3
             try clear hfz35_4
             try clear hfz35_5
             try clear hfz41_0
             try clear hfz41_1
             try clear hfz41_2
             try clear hfz41_3
             try clear hfz41_4
             try clear hfz41_5
             try clear hfz44_0
             try clear hfz44_1
             try clear hfz44_2
             try clear hfz44_3
             try clear hfz44_4
             try clear hfz44_5
             try clear hfz46_0
             try clear hfz46_1
             try clear hfz52_0
             try clear hfz52_1
             try clear hfz52_2
             try clear hfz52_3
             try clear hfz52_4
             try clear hfz52_5
             try clear hfz6_0
             try clear hfz6_1
             try clear hfz8_0
             try clear hfz8_1
             try clear hx127_0
             try clear hx127_1
             try clear hx127_2
             try clear hx127_3
             try clear hx127_4
             try clear hx127_5
             try clear hx132_0
             try clear hx132_1
             try clear hx132_2
             try clear hx132_3
             try clear hx132_4
             try clear hx132_5
             try clear p1
             try clear p12
             try clear p127
             try clear p132
             try clear p2
             try clear p6
             try clear q1
             try clear q12
             try clear q127
             try clear q132
             obtain ⟨x68_3, rfl, HA, HK3, BK125, BK133, HB⟩ := hrel
             cases gk with
             | zero => exact absurd HA.out (by simp [graph_Check.l2])
             | succ k3 =>
              have H := HA.out
              clear HA
              simp only [graph_Check.l2] at H
              by_cases c53 : x68_3 < (((rd_T48 l0_1 x60_2).f1).length : Int)
              ·rw [if_pos c53] at H
               have c53b0 : decide (x68_3 < (((rd_T48 l0_1 x60_2).f1).length : Int)) = true := decide_eq_true c53
               clear c53
               by_cases c54 : 0 ≤ x68_3
               ·rw [if_pos c54] at H
                have c54b0 : decide (0 ≤ x68_3) = true := decide_eq_true c54
                clear c54
                by_cases c55 : x68_3 < (((rd_T48 l0_1 x60_2).f1).length : Int)
                ·rw [if_pos c55] at H
                 have c55b0 : decide (x68_3 < (((rd_T48 l0_1 x60_2).f1).length : Int)) = true := decide_eq_true c55
                 clear c55
                 replace H := Option.bind_eq_some_iff.mp H
                 obtain ⟨t135, A560, H⟩ := H
                 replace H : (if t135 < 0 then (some (x60_2, 32)) else ((slices_Index_string_string.f k3 ((rd_T48 l0_1 x60_2).f1) (rdOf ByteArray.empty ((rd_T48 l0_1 x60_2).f1) x68_3)).bind fun t136 => (if t136 < x68_3 then (some (x60_2, 32)) else (graph_Check.l2 k3 x60_2 l0_1 (l0_1.length : Int) x60_2 ((rd_T48 l0_1 x60_2).f1) (((rd_T48 l0_1 x60_2).f1).length : Int) (wrap64 (x68_3 + 1)) a0_0 l0_1 ((rd_T48 l0_1 x60_2).f0) ((rd_T48 l0_1 x60_2).f1) ((rd_T48 l0_1 x60_2).f2) ((rd_T48 l0_1 x60_2).f3) ((rd_T48 l0_1 x60_2).f4) ((rd_T48 l0_1 x60_2).f5))))) = some (r1, r2) := H
                 have A56 := Aside0.mk A560
                 clear A560
                 by_cases c57 : t135 < 0
                 ·rw [if_pos c57] at H
                  have c57b0 : decide (t135 < 0) = true := decide_eq_true c57
                  clear c57
                  simp only [Option.some.injEq, Prod.mk.injEq] at H
                  obtain ⟨rfl, rfl⟩ := H
                  have p134 : 0 ≤ (x68_3 : Int) := of_decide_eq_true (by first | (with_reducible assumption) | assumption)
                  have q134 : x68_3 < (((rd_T48 l0_1 x60_2).f1).length : Int) := of_decide_eq_true (by first | (with_reducible assumption) | assumption)
                  obtain ⟨ad134, e134, hx134_0⟩ := Kd.at_string HR132_1.out x68_3 p134 q134
                  cases e134
                  replace hx134_0 := (HB.out.cell (World.block_lt_of_cell? w _ hx134_0)).trans hx134_0
                  replace p134 := eq_true p134
                  replace q134 := eq_true q134
                  have hnb58 := NB125_133.out
                  have hnc58 := NB133_125.out
                  have hcz59_0 : wr.cell? ⟨gb125, 0, none⟩ = some (.string a0_0) := (blk_cell BK125.out 0).trans rfl
                  have hcz59_1 : wr.cell? ⟨gb125, 1, none⟩ = some (.slice (some ad132) l0_1.length c0_1) := (blk_cell BK125.out 1).trans rfl
                  have hfz59_0 := blk_frozen BK125.out 0
                  have hfz59_1 := blk_frozen BK125.out 1
                  go_wp2_with (first | ((with_reducible refine gate_callee (f := 50) rfl ?_); refine goesL_ (some 75) rfl rfl Try.func50 (by kernel_rfl) rfl #[.agg #[.string a0_0, .slice (some ad132) l0_1.length c0_1], .string (rdOf ByteArray.empty ((rd_T48 l0_1 x60_2).f1) x68_3)] rfl ag ?_; (with_reducible refine (graph_Flow_find.calls a0_0 _ _ l0_1 (rdOf ByteArray.empty ((rd_T48 l0_1 x60_2).f1) x68_3) t135 _ ?side1 ?side2 A56.out).mono ?_); (case side1 => repeat (first | exact (Kd.C_below HR0_1.out HB.out) | (with_reducible refine Kd.C_alloc ?_ _) | (with_reducible refine Kd.C_drewN ?_ _) | (with_reducible refine Kd.C_drew ?_))); (case side2 => exact HC0_1.out); rintro e w60 ⟨rfl, hb⟩; refine ⟨_, rfl, ?_⟩; have n0_ := Aside0.mk (blk_below (rb BK125.out) hb); have n1_ := Aside0.mk (blk_below (rb BK133.out) hb); have n2_ := Aside0.mk (below_step bb hb); clear BK125; clear BK133; clear HB; have BK125 := n0_; have BK133 := n1_; have HB := n2_; clear n0_ n1_ n2_; (try clear hb); (try clear hb2); (try clear hk); (try clear hi)))
                  go_ret2
                  exact ⟨by first | rfl | (simp [errW_none, errW_some] <;> rfl) | (simp [*, errW_none, errW_some] <;> rfl), bb⟩
                 ·rw [if_neg c57] at H
                  have c57b0 : decide (t135 < 0) = false := decide_eq_false c57
                  clear c57
                  replace H := Option.bind_eq_some_iff.mp H
                  obtain ⟨t136, A610, H⟩ := H
                  replace H : (if t136 < x68_3 then (some (x60_2, 32)) else (graph_Check.l2 k3 x60_2 l0_1 (l0_1.length : Int) x60_2 ((rd_T48 l0_1 x60_2).f1) (((rd_T48 l0_1 x60_2).f1).length : Int) (wrap64 (x68_3 + 1)) a0_0 l0_1 ((rd_T48 l0_1 x60_2).f0) ((rd_T48 l0_1 x60_2).f1) ((rd_T48 l0_1 x60_2).f2) ((rd_T48 l0_1 x60_2).f3) ((rd_T48 l0_1 x60_2).f4) ((rd_T48 l0_1 x60_2).f5))) = some (r1, r2) := H
                  have A61 := Aside0.mk A610
                  clear A610
                  by_cases c62 : t136 < x68_3
                  ·rw [if_pos c62] at H
                   have c62b0 : decide (t136 < x68_3) = true := decide_eq_true c62
                   clear c62
                   simp only [Option.some.injEq, Prod.mk.injEq] at H
                   obtain ⟨rfl, rfl⟩ := H
                   have p134 : 0 ≤ (x68_3 : Int) := of_decide_eq_true (by first | (with_reducible assumption) | assumption)
                   have q134 : x68_3 < (((rd_T48 l0_1 x60_2).f1).length : Int) := of_decide_eq_true (by first | (with_reducible assumption) | assumption)
                   obtain ⟨ad134, e134, hx134_0⟩ := Kd.at_string HR132_1.out x68_3 p134 q134
                   cases e134
                   replace hx134_0 := (HB.out.cell (World.block_lt_of_cell? w _ hx134_0)).trans hx134_0
                   replace p134 := eq_true p134
                   replace q134 := eq_true q134
                   have hnb63 := NB125_133.out
                   have hnc63 := NB133_125.out
                   have hcz64_0 : wr.cell? ⟨gb125, 0, none⟩ = some (.string a0_0) := (blk_cell BK125.out 0).trans rfl
                   have hcz64_1 : wr.cell? ⟨gb125, 1, none⟩ = some (.slice (some ad132) l0_1.length c0_1) := (blk_cell BK125.out 1).trans rfl
                   have hfz64_0 := blk_frozen BK125.out 0
                   have hfz64_1 := blk_frozen BK125.out 1
                   go_wp2_with (first | ((with_reducible refine gate_callee (f := 50) rfl ?_); refine goesL_ (some 75) rfl rfl Try.func50 (by kernel_rfl) rfl #[.agg #[.string a0_0, .slice (some ad132) l0_1.length c0_1], .string (rdOf ByteArray.empty ((rd_T48 l0_1 x60_2).f1) x68_3)] rfl ag ?_; (with_reducible refine (graph_Flow_find.calls a0_0 _ _ l0_1 (rdOf ByteArray.empty ((rd_T48 l0_1 x60_2).f1) x68_3) t135 _ ?side1 ?side2 A56.out).mono ?_); (case side1 => repeat (first | exact (Kd.C_below HR0_1.out HB.out) | (with_reducible refine Kd.C_alloc ?_ _) | (with_reducible refine Kd.C_drewN ?_ _) | (with_reducible refine Kd.C_drew ?_))); (case side2 => exact HC0_1.out); rintro e w65 ⟨rfl, hb⟩; refine ⟨_, rfl, ?_⟩; have n0_ := Aside0.mk (blk_below (rb BK125.out) hb); have n1_ := Aside0.mk (blk_below (rb BK133.out) hb); have n2_ := Aside0.mk (below_step bb hb); clear BK125; clear BK133; clear HB; have BK125 := n0_; have BK133 := n1_; have HB := n2_; clear n0_ n1_ n2_; (try clear hb); (try clear hb2); (try clear hk); (try clear hi); have hcz66_0 : w65.cell? ⟨gb133, 0, none⟩ = some (.string ((rd_T48 l0_1 x60_2).f0)) := (blk_cell BK133.out 0).trans rfl; have hcz66_1 : w65.cell? ⟨gb133, 1, none⟩ = some (.slice (some ad134) ((rd_T48 l0_1 x60_2).f1).length c132_1) := (blk_cell BK133.out 1).trans rfl; have hcz66_2 : w65.cell? ⟨gb133, 2, none⟩ = some (.int .i64 ((rd_T48 l0_1 x60_2).f2)) := (blk_cell BK133.out 2).trans rfl; have hcz66_3 : w65.cell? ⟨gb133, 3, none⟩ = some (.int .i64 ((rd_T48 l0_1 x60_2).f3)) := (blk_cell BK133.out 3).trans rfl; have hcz66_4 : w65.cell? ⟨gb133, 4, none⟩ = some (.int .i64 ((rd_T48 l0_1 x60_2).f4)) := (blk_cell BK133.out 4).trans rfl; have hcz66_5 : w65.cell? ⟨gb133, 5, none⟩ = some (.string ((rd_T48 l0_1 x60_2).f5)) := (blk_cell BK133.out 5).trans rfl; have hfz66_0 := blk_frozen BK133.out 0; have hfz66_1 := blk_frozen BK133.out 1; have hfz66_2 := blk_frozen BK133.out 2; have hfz66_3 := blk_frozen BK133.out 3; have hfz66_4 := blk_frozen BK133.out 4; have hfz66_5 := blk_frozen BK133.out 5) | (go_at_call 52; (with_reducible refine (slices_Index_string_string.calls k3 _ _ ((rd_T48 l0_1 x60_2).f1) (rdOf ByteArray.empty ((rd_T48 l0_1 x60_2).f1) x68_3) t136 _ ?side1 ?side2 A61.out).mono ?_); (case side1 => repeat (first | exact (Kd.C_below HR132_1.out HB.out) | (with_reducible refine Kd.C_alloc ?_ _) | (with_reducible refine Kd.C_drewN ?_ _) | (with_reducible refine Kd.C_drew ?_))); (case side2 => exact HC132_1.out); rintro e w' ⟨rfl, ⟨nd, rfl⟩⟩))
                   go_ret2
                   exact ⟨by first | rfl | (simp [errW_none, errW_some] <;> rfl) | (simp [*, errW_none, errW_some] <;> rfl), bb⟩
                  ·rw [if_neg c62] at H
                   have c62b0 : decide (t136 < x68_3) = false := decide_eq_false c62
                   clear c62
                   have H' := Aside0.mk H
                   clear H
                   have p134 : 0 ≤ (x68_3 : Int) := of_decide_eq_true (by first | (with_reducible assumption) | assumption)
                   have q134 : x68_3 < (((rd_T48 l0_1 x60_2).f1).length : Int) := of_decide_eq_true (by first | (with_reducible assumption) | assumption)
                   obtain ⟨ad134, e134, hx134_0⟩ := Kd.at_string HR132_1.out x68_3 p134 q134
                   cases e134
                   replace hx134_0 := (HB.out.cell (World.block_lt_of_cell? w _ hx134_0)).trans hx134_0
                   replace p134 := eq_true p134
                   replace q134 := eq_true q134
                   have hnb67 := NB125_133.out
                   have hnc67 := NB133_125.out
                   have hcz68_0 : wr.cell? ⟨gb125, 0, none⟩ = some (.string a0_0) := (blk_cell BK125.out 0).trans rfl
                   have hcz68_1 : wr.cell? ⟨gb125, 1, none⟩ = some (.slice (some ad132) l0_1.length c0_1) := (blk_cell BK125.out 1).trans rfl
                   have hfz68_0 := blk_frozen BK125.out 0
                   have hfz68_1 := blk_frozen BK125.out 1
                   go_wp2_with (first | ((with_reducible refine gate_callee (f := 50) rfl ?_); refine goesL_ (some 75) rfl rfl Try.func50 (by kernel_rfl) rfl #[.agg #[.string a0_0, .slice (some ad132) l0_1.length c0_1], .string (rdOf ByteArray.empty ((rd_T48 l0_1 x60_2).f1) x68_3)] rfl ag ?_; (with_reducible refine (graph_Flow_find.calls a0_0 _ _ l0_1 (rdOf ByteArray.empty ((rd_T48 l0_1 x60_2).f1) x68_3) t135 _ ?side1 ?side2 A56.out).mono ?_); (case side1 => repeat (first | exact (Kd.C_below HR0_1.out HB.out) | (with_reducible refine Kd.C_alloc ?_ _) | (with_reducible refine Kd.C_drewN ?_ _) | (with_reducible refine Kd.C_drew ?_))); (case side2 => exact HC0_1.out); rintro e w69 ⟨rfl, hb⟩; refine ⟨_, rfl, ?_⟩; have n0_ := Aside0.mk (blk_below (rb BK125.out) hb); have n1_ := Aside0.mk (blk_below (rb BK133.out) hb); have n2_ := Aside0.mk (below_step bb hb); clear BK125; clear BK133; clear HB; have BK125 := n0_; have BK133 := n1_; have HB := n2_; clear n0_ n1_ n2_; (try clear hb); (try clear hb2); (try clear hk); (try clear hi); have hcz70_0 : w69.cell? ⟨gb133, 0, none⟩ = some (.string ((rd_T48 l0_1 x60_2).f0)) := (blk_cell BK133.out 0).trans rfl; have hcz70_1 : w69.cell? ⟨gb133, 1, none⟩ = some (.slice (some ad134) ((rd_T48 l0_1 x60_2).f1).length c132_1) := (blk_cell BK133.out 1).trans rfl; have hcz70_2 : w69.cell? ⟨gb133, 2, none⟩ = some (.int .i64 ((rd_T48 l0_1 x60_2).f2)) := (blk_cell BK133.out 2).trans rfl; have hcz70_3 : w69.cell? ⟨gb133, 3, none⟩ = some (.int .i64 ((rd_T48 l0_1 x60_2).f3)) := (blk_cell BK133.out 3).trans rfl; have hcz70_4 : w69.cell? ⟨gb133, 4, none⟩ = some (.int .i64 ((rd_T48 l0_1 x60_2).f4)) := (blk_cell BK133.out 4).trans rfl; have hcz70_5 : w69.cell? ⟨gb133, 5, none⟩ = some (.string ((rd_T48 l0_1 x60_2).f5)) := (blk_cell BK133.out 5).trans rfl; have hfz70_0 := blk_frozen BK133.out 0; have hfz70_1 := blk_frozen BK133.out 1; have hfz70_2 := blk_frozen BK133.out 2; have hfz70_3 := blk_frozen BK133.out 3; have hfz70_4 := blk_frozen BK133.out 4; have hfz70_5 := blk_frozen BK133.out 5) | (go_at_call 52; (with_reducible refine (slices_Index_string_string.calls k3 _ _ ((rd_T48 l0_1 x60_2).f1) (rdOf ByteArray.empty ((rd_T48 l0_1 x60_2).f1) x68_3) t136 _ ?side1 ?side2 A61.out).mono ?_); (case side1 => repeat (first | exact (Kd.C_below HR132_1.out HB.out) | (with_reducible refine Kd.C_alloc ?_ _) | (with_reducible refine Kd.C_drewN ?_ _) | (with_reducible refine Kd.C_drew ?_))); (case side2 => exact HC132_1.out); rintro e w' ⟨rfl, ⟨nd, rfl⟩⟩))
                   go_roundg k3
                   case measure => have := HK1.out; have := HK2.out; have := HK3.out; omega
                   case rel => exact ⟨(wrap64 (x68_3 + 1)), (by first | rfl | (simp; done) | (simp [*]; done)), H', ⟨by have := HK1.out; have := HK2.out; have := HK3.out; omega⟩, ⟨by (with_reducible repeat (first | refine blk_drewN ?_ _ | refine blk_drew ?_ | refine blk_alloc ?_ _)); exact BK125.out⟩, ⟨by (with_reducible repeat (first | refine blk_drewN ?_ _ | refine blk_drew ?_ | refine blk_alloc ?_ _)); exact BK133.out⟩, ⟨bb⟩⟩
                ·rw [if_neg c55] at H
                 exact absurd H (by simp)
               ·rw [if_neg c54] at H
                exact absurd H (by simp)
              ·rw [if_neg c53] at H
               have c53b0 : decide (x68_3 < (((rd_T48 l0_1 x60_2).f1).length : Int)) = false := decide_eq_false c53
               clear c53
               have H' := Aside0.mk H
               clear H
               go_wp2
               go_roundg k3
               case measure => have := HK1.out; have := HK2.out; have := HK3.out; omega
               case rel => exact ⟨(wrap64 (x60_2 + 1)), (by first | rfl | (simp; done) | (simp [*]; done)), H', ⟨by have := HK1.out; have := HK2.out; have := HK3.out; omega⟩, ⟨by (with_reducible repeat (first | refine blk_drewN ?_ _ | refine blk_drew ?_ | refine blk_alloc ?_ _)); exact BK125.out⟩, ⟨bb⟩⟩
           ·rw [if_neg c49] at H
            exact absurd H (by simp)
          ·rw [if_neg c48] at H
           exact absurd H (by simp)
         ·rw [if_neg c47] at H
          have c47b0 : decide (x60_2 < (l0_1.length : Int)) = false := decide_eq_false c47
          clear c47
          replace H := Option.bind_eq_some_iff.mp H
          obtain ⟨t137, A710, H⟩ := H
          replace H : ((graph_behind.f k2 t137).bind fun t140 => (graph_Check.l3 k2 t140 (t140.length : Int) 0)) = some (r1, r2) := H
          have A71 := Aside0.mk A710
          clear A710
          replace H := Option.bind_eq_some_iff.mp H
          obtain ⟨t140, A720, H⟩ := H
          replace H : (graph_Check.l3 k2 t140 (t140.length : Int) 0) = some (r1, r2) := H
          have A72 := Aside0.mk A720
          clear A720
          have H' := Aside0.mk H
          clear H
          have hcz73_0 : wr.cell? ⟨gb125, 0, none⟩ = some (.string a0_0) := (blk_cell BK125.out 0).trans rfl
          have hcz73_1 : wr.cell? ⟨gb125, 1, none⟩ = some (.slice A0_1 l0_1.length c0_1) := (blk_cell BK125.out 1).trans rfl
          have hfz73_0 := blk_frozen BK125.out 0
          have hfz73_1 := blk_frozen BK125.out 1
          go_wp2_with (first | ((with_reducible refine gate_callee (f := 18) rfl ?_); refine goesL_ (some 89) rfl rfl Try.func18 (by kernel_rfl) rfl #[.agg #[.string a0_0, .slice A0_1 l0_1.length c0_1]] rfl ag ?_; (with_reducible refine (graph_Masks.calls k2 a0_0 _ _ l0_1 t137 _ ?side1 ?side2 A71.out).mono ?_); (case side1 => repeat (first | exact (Kd.C_below HR0_1.out HB.out) | (with_reducible refine Kd.C_alloc ?_ _) | (with_reducible refine Kd.C_drewN ?_ _) | (with_reducible refine Kd.C_drew ?_))); (case side2 => exact HC0_1.out); rintro e w74 ⟨v138, rfl, ho0, hb⟩; refine ⟨_, rfl, ?_⟩; have n0_ := Aside0.mk (Kd.R_lower ho0 (below_size bb)); have n1_ := Aside0.mk (blk_below (rb BK125.out) hb); have n2_ := Aside0.mk (below_step bb hb); clear BK125; clear HB; have HO139 := n0_; have BK125 := n1_; have HB := n2_; clear n0_ n1_ n2_; (try clear hb); (try clear hb2); (try clear hk); (try clear hi); (try clear ho0); obtain ⟨Ao75, co75, eo75⟩ := Kd.R_slice HO139.out; subst eo75) | ((with_reducible refine gate_callee (f := 53) rfl ?_); refine goesL_ (some 90) rfl rfl Try.func53 (by kernel_rfl) rfl #[.slice Ao75 t137.length co75] rfl ag ?_; (with_reducible refine (graph_behind.calls k2 _ _ t137 t140 _ ?side1 ?side2 A72.out).mono ?_); (case side1 => repeat (first | exact (Kd.R_reads' HO139.out).2.2 | (with_reducible refine Kd.C_alloc ?_ _) | (with_reducible refine Kd.C_drewN ?_ _) | (with_reducible refine Kd.C_drew ?_))); (case side2 => exact (Kd.R_reads' HO139.out).2.1); rintro e w76 ⟨v141, rfl, ho0, hb⟩; refine ⟨_, rfl, ?_⟩; have n0_ := Aside0.mk (Kd.R_elder' (kR HO139.out) (Kd.R_base ho0) hb); have n1_ := Aside0.mk (Kd.R_lower (Kd.R_new' ho0 (Kd.R_lt (kR HO139.out))) (below_size bb)); have n2_ := Aside0.mk (blk_below (rb BK125.out) hb); have n3_ := Aside0.mk (below_step bb hb); clear HO139; clear BK125; clear HB; have HO139 := n0_; have HO142 := n1_; have BK125 := n2_; have HB := n3_; clear n0_ n1_ n2_ n3_; (try clear hb); (try clear hb2); (try clear hk); (try clear hi); (try clear ho0); obtain ⟨Ao77, co77, eo77⟩ := Kd.R_slice HO142.out; subst eo77))
          go_loopg [92] k2 (fun kq v92 w' => ∃ (x92_3 : Int), v92 = .int .i64 x92_3 ∧ Aside0 (graph_Check.l3 kq t140 (t140.length : Int) x92_3 = some (r1, r2)) ∧ Aside0 (kq ≤ k2) ∧ Aside0 (Kd.R (Kd.int .u32) 43 w' w.heap.size (fun _ => True) (.slice Ao77 t140.length co77) t140) ∧ Aside0 (w'.heap[gb125]? = some (.cells #[.string a0_0, (.slice A0_1 l0_1.length c0_1)] 27 (0, 0))) ∧ Aside0 (Below w.heap.size w w'))
          case atStart => exact ⟨(0), (by first | rfl | (simp; done) | (simp [*]; done)), H', ⟨Nat.le_refl _⟩, ⟨kR (Kd.R_mono HO142.out (fun _ hk => trivial))⟩, ⟨by (with_reducible repeat (first | refine blk_drewN ?_ _ | refine blk_drew ?_ | refine blk_alloc ?_ _)); exact BK125.out⟩, ⟨bb⟩⟩
          case round =>
           clear H'
           try clear c1
           try clear p1
           try clear q1
           try clear hx1
           try clear c2
           try clear p2
           try clear c3
           try clear c4
           try clear c4b0
           try clear c4b1
           try clear c5
           try clear c6
           try clear p6
           try clear c9
           try clear c9b0
           try clear c9b1
           try clear c12
           try clear p12
           try clear q12
           try clear hx12
           try clear c13
           try clear p13
           try clear q13
           try clear hx13
           try clear c15
           try clear c18
           try clear c18b0
           try clear c19
           try clear c19b0
           try clear c20
           try clear c20b0
           try clear c23
           try clear c26
           try clear c28
           try clear c34
           try clear c37
           try clear c39
           try clear c39b0
           try clear c39b1
           try clear c40
           try clear c43
           try clear c47
           try clear c47b0
           try clear c48
           try clear c48b0
           try clear c49
           try clear c49b0
           try clear c50
           try clear c51
           try clear c53
           try clear c53b0
           try clear c54
           try clear c54b0
           try clear c55
           try clear c55b0
           try clear c57
           try clear c57b0
           try clear c58
           try clear c62
           try clear c62b0
           try clear c63
           try clear p64
           try clear c67
           try clear hcz11_0
           try clear hcz11_1
           try clear hcz13_0
           try clear hcz13_1
           try clear hcz15_0
           try clear hcz15_1
           try clear hcz17_0
           try clear hcz17_1
           try clear hcz24_0
           try clear hcz24_1
           try clear hcz24_2
           try clear hcz24_3
           try clear hcz24_4
           try clear hcz24_5
           try clear hcz29_0
           try clear hcz29_1
           try clear hcz29_2
           try clear hcz29_3
           try clear hcz29_4
           try clear hcz29_5
           try clear hcz31_0
           try clear hcz31_1
           try clear hcz32_0
           try clear hcz32_1
           try clear hcz32_2
           try clear hcz32_3
           try clear hcz32_4
           try clear hcz32_5
           try clear hcz35_0
           try clear hcz35_1
           try clear hcz35_2
           try clear hcz35_3
           try clear hcz35_4
           try clear hcz35_5
           try clear hcz41_0
           try clear hcz41_1
           try clear hcz41_2
           try clear hcz41_3
           try clear hcz41_4
           try clear hcz41_5
           try clear hcz44_0
           try clear hcz44_1
           try clear hcz44_2
           try clear hcz44_3
           try clear hcz44_4
           try clear hcz44_5
           try clear hcz46_0
           try clear hcz46_1
           try clear hcz52_0
           try clear hcz52_1
           try clear hcz52_2
           try clear hcz52_3
           try clear hcz52_4
           try clear hcz52_5
           try clear hcz59_0
           try clear hcz59_1
           try clear hcz64_0
           try clear hcz64_1
           try clear hcz66_0
           try clear hcz66_1
           try clear hcz66_2
           try clear hcz66_3
           try clear hcz66_4
           try clear hcz66_5
           try clear hcz68_0
           try clear hcz68_1
           try clear hcz6_0
           try clear hcz6_1
           try clear hcz70_0
           try clear hcz70_1
           try clear hcz70_2
           try clear hcz70_3
           try clear hcz70_4
           try clear hcz70_5
           try clear hcz73_0
           try clear hcz73_1
           try clear hcz8_0
           try clear hcz8_1
           try clear hfz11_0
           try clear hfz11_1
           try clear hfz13_0
           try clear hfz13_1
           try clear hfz15_0
           try clear hfz15_1
           try clear hfz17_0
           try clear hfz17_1
           try clear hfz24_0
           try clear hfz24_1
           try clear hfz24_2
           try clear hfz24_3
           try clear hfz24_4
           try clear hfz24_5
           try clear hfz29_0
           try clear hfz29_1
           try clear hfz29_2
           try clear hfz29_3
           try clear hfz29_4
           try clear hfz29_5
           try clear hfz31_0
           try clear hfz31_1
           try clear hfz32_0
           try clear hfz32_1
           try clear hfz32_2
           try clear hfz32_3
           try clear hfz32_4
           try clear hfz32_5
           try clear hfz35_0
           try clear hfz35_1
           try clear hfz35_2
           try clear hfz35_3
           try clear hfz35_4
           try clear hfz35_5
           try clear hfz41_0
           try clear hfz41_1
           try clear hfz41_2
           try clear hfz41_3
           try clear hfz41_4
           try clear hfz41_5
           try clear hfz44_0
           try clear hfz44_1
           try clear hfz44_2
           try clear hfz44_3
           try clear hfz44_4
           try clear hfz44_5
           try clear hfz46_0
           try clear hfz46_1
           try clear hfz52_0
           try clear hfz52_1
           try clear hfz52_2
           try clear hfz52_3
           try clear hfz52_4
           try clear hfz52_5
           try clear hfz59_0
           try clear hfz59_1
           try clear hfz64_0
           try clear hfz64_1
           try clear hfz66_0
           try clear hfz66_1
           try clear hfz66_2
           try clear hfz66_3
           try clear hfz66_4
           try clear hfz66_5
           try clear hfz68_0
           try clear hfz68_1
           try clear hfz6_0
           try clear hfz6_1
           try clear hfz70_0
           try clear hfz70_1
           try clear hfz70_2
           try clear hfz70_3
           try clear hfz70_4
           try clear hfz70_5
           try clear hfz73_0
           try clear hfz73_1
           try clear hfz8_0
           try clear hfz8_1
           try clear hx127_0
           try clear hx127_1
           try clear hx127_2
           try clear hx127_3
           try clear hx127_4
           try clear hx127_5
           try clear hx132_0
           try clear hx132_1
           try clear hx132_2
           try clear hx132_3
           try clear hx132_4
           try clear hx132_5
           try clear hx134_0
           try clear p1
           try clear p12
           try clear p127
           try clear p13
           try clear p132
           try clear p134
           try clear p2
           try clear p6
           try clear q1
           try clear q12
           try clear q127
           try clear q13
           try clear q132
           try clear q134
           obtain ⟨x92_3, rfl, HA, HK3, HO_90, BK125, HB⟩ := hrel
           cases gk with
           | zero => exact absurd HA.out (by simp [graph_Check.l3])
           | succ k3 =>
            have H := HA.out
            clear HA
            simp only [graph_Check.l3] at H
            by_cases c78 : x92_3 < (t140.length : Int)
            ·rw [if_pos c78] at H
             have c78b0 : decide (x92_3 < (t140.length : Int)) = true := decide_eq_true c78
             clear c78
             by_cases c79 : 0 ≤ x92_3
             ·rw [if_pos c79] at H
              have c79b0 : decide (0 ≤ x92_3) = true := decide_eq_true c79
              clear c79
              by_cases c80 : x92_3 < (t140.length : Int)
              ·rw [if_pos c80] at H
               have c80b0 : decide (x92_3 < (t140.length : Int)) = true := decide_eq_true c80
               clear c80
               have c81b0 := eq_true (of_decide_eq_true (by first | (with_reducible assumption) | assumption) : 0 ≤ x92_3)
               obtain ⟨ji82, hji82⟩ : ∃ j_ : Int, (shr .u32 (rd t140 x92_3) x92_3) = j_ := ⟨_, rfl⟩
               replace H : (if (Go.bits .and .u32 (ji82) 1) = 1 then (some (x92_3, 33)) else (graph_Check.l3 k3 t140 (t140.length : Int) (wrap64 (x92_3 + 1)))) = some (r1, r2) := by first | (rw [hji82] at H; exact H) | (simp only [hji82] at H ⊢; exact H)
               have hji82_ : ((rd t140 x92_3) / 2 ^ min x92_3.toNat 32) = ji82 := hji82
               have hji82z : x92_3 ≤ 32 → ((rd t140 x92_3) / 2 ^ x92_3.toNat) = ji82 := shr_small hji82
               by_cases c83 : (Go.bits .and .u32 (ji82) 1) = 1
               ·rw [if_pos c83] at H
                have c83b0 : ((Go.bits .and .u32 (ji82) 1) == 1) = true := beq_iff_eq.mpr c83
                have c83b1 : ((Go.bits .and .u32 (ji82) 1) != 1) = false := bne_eq_false_iff_eq.mpr c83
                clear c83
                simp only [Option.some.injEq, Prod.mk.injEq] at H
                obtain ⟨rfl, rfl⟩ := H
                have p143 : 0 ≤ (x92_3 : Int) := of_decide_eq_true (by first | (with_reducible assumption) | assumption)
                have q143 : x92_3 < (t140.length : Int) := of_decide_eq_true (by first | (with_reducible assumption) | assumption)
                obtain ⟨ad143, e143, hx143_0⟩ := Kd.at_int (Kd.R_reads' HO_90.out).2.2 x92_3 p143 q143
                cases e143
                replace p143 := eq_true p143
                replace q143 := eq_true q143
                go_wp2
                go_ret2
                exact ⟨by first | rfl | (simp [errW_none, errW_some] <;> rfl) | (simp only [← hji82]; first | rfl | (simp [errW_none, errW_some] <;> rfl)) | (simp [*, errW_none, errW_some] <;> rfl), bb⟩
               ·rw [if_neg c83] at H
                have c83b0 : ((Go.bits .and .u32 (ji82) 1) == 1) = false := beq_eq_false_iff_ne.mpr c83
                have c83b1 : ((Go.bits .and .u32 (ji82) 1) != 1) = true := bne_iff_ne.mpr c83
                have H' := Aside0.mk H
                clear H
                have p143 : 0 ≤ (x92_3 : Int) := of_decide_eq_true (by first | (with_reducible assumption) | assumption)
                have q143 : x92_3 < (t140.length : Int) := of_decide_eq_true (by first | (with_reducible assumption) | assumption)
                obtain ⟨ad143, e143, hx143_0⟩ := Kd.at_int (Kd.R_reads' HO_90.out).2.2 x92_3 p143 q143
                cases e143
                replace p143 := eq_true p143
                replace q143 := eq_true q143
                go_wp2
                go_roundg k3
                case measure => have := HK1.out; have := HK2.out; have := HK3.out; omega
                case rel => exact ⟨(wrap64 (x92_3 + 1)), (by first | rfl | (simp; done) | (simp [*]; done)), H', ⟨by have := HK1.out; have := HK2.out; have := HK3.out; omega⟩, ⟨kR HO_90.out⟩, ⟨by (with_reducible repeat (first | refine blk_drewN ?_ _ | refine blk_drew ?_ | refine blk_alloc ?_ _)); exact BK125.out⟩, ⟨bb⟩⟩
              ·rw [if_neg c80] at H
               exact absurd H (by simp)
             ·rw [if_neg c79] at H
              exact absurd H (by simp)
            ·rw [if_neg c78] at H
             have c78b0 : decide (x92_3 < (t140.length : Int)) = false := decide_eq_false c78
             clear c78
             simp only [Option.some.injEq, Prod.mk.injEq] at H
             obtain ⟨rfl, rfl⟩ := H
             go_wp2
             go_ret2
             exact ⟨by first | rfl | (simp [errW_none, errW_some] <;> rfl) | (simp [*, errW_none, errW_some] <;> rfl), bb⟩
 ·replace c3 := Bool.eq_false_iff.mpr c3
  subst c3
  have H1 : (some ((-1), 30)) = some (r1, r2) := by rw [if_neg (show ¬ (false = true) by decide)] at H; exact H
  clear H
  have H := H1
  clear H1
  simp only [Option.some.injEq, Prod.mk.injEq] at H
  obtain ⟨rfl, rfl⟩ := H
  go_enter Try.func15, Try.ntmps15
  go_wp2_with (first | ((with_reducible refine gate_dst (N := 1) rfl ?_); (try (refine gate_guard (by rfl) ?_; dsimp only)); refine box_event ?hg (N := 1) ?hd (cs := #[.string a0_0, .slice A0_1 l0_1.length c0_1]) (t := 27) ?hr ?_; (case hd => rfl); (case hg => rfl); (case hr => first | (go_simp; done) | (go_simp; rfl)); intro gb125 hg w84 hbox hb; have n0_ := Aside0.mk (below_step bb hb); have n1_ := Aside0.mk (hbox); have n2_ := Aside0.mk ((by rw [hg]; exact (below_size bb) : w.heap.size ≤ gb125)); have n3_ := Aside0.mk ((by rw [hg]; exact (below_size bb) : w.heap.size ≤ gb125)); clear HB; have HB := n0_; have BK125 := n1_; have GW125 := n2_; have GE125 := n3_; clear n0_ n1_ n2_ n3_; clear hb hbox hg; have hcz85_0 : w84.cell? ⟨gb125, 0, none⟩ = some (.string a0_0) := (blk_cell BK125.out 0).trans rfl; have hcz85_1 : w84.cell? ⟨gb125, 1, none⟩ = some (.slice A0_1 l0_1.length c0_1) := (blk_cell BK125.out 1).trans rfl; have hfz85_0 := blk_frozen BK125.out 0; have hfz85_1 := blk_frozen BK125.out 1) | ((with_reducible refine gate_callee (f := 49) rfl ?_); refine goesL_ (some 16) rfl rfl Try.func49 (by kernel_rfl) rfl #[.string a0_0] rfl ag ?_; (with_reducible refine (grant_Named.calls a0_0 false _ A2.out).mono ?_); rintro e w86 ⟨rfl, hb⟩; refine ⟨_, rfl, ?_⟩; have n0_ := Aside0.mk (blk_below (rb BK125.out) hb); have n1_ := Aside0.mk (below_step bb hb); clear BK125; clear HB; have BK125 := n0_; have HB := n1_; clear n0_ n1_; (try clear hb); (try clear hb2); (try clear hk); (try clear hi)))
  go_ret2
  exact ⟨by first | rfl | (simp [errW_none, errW_some] <;> rfl) | (simp [*, errW_none, errW_some] <;> rfl), bb⟩

end Go.Proofs.Ytjicfkmpgogppaa.PG
