-- printed by a program of this session out of the translation; see NOTES.md
import Derived.Test.YtjicfkmpgogppaaPGx0
import Derived.Test.YtjicfkmpgogppaaPGx10
import Derived.Test.YtjicfkmpgogppaaPGx11
import Derived.Test.YtjicfkmpgogppaaRb
namespace Go.Proofs.Ytjicfkmpgogppaa.PG
open Go.RowKit Go.Proofs.YtjicfkmpgogppaaW.PrintWords Go.Proofs.YtjicfkmpgogppaaW.PrintLast Go.Proofs.YtjicfkmpgogppaaW.PrintMore Go.Proofs.YtjicfkmpgogppaaRb
attribute [local go_sem] max2_int min2_int max_two min_two max_three min_three max_four min_four   -- for this text's walks alone
set_option linter.unusedVariables false
set_option linter.unusedSimpArgs false

/-! ### precinctref12_one: function 55 -/
mutual
def precinctref12_one.j0 : Nat → Bool → ByteArray → List ByteArray → Int → Int → Int → ByteArray → Option (Int)
 | 0, _, _, _, _, _, _, _ => none
 | k + 1, x27, x149000, x149001, x149002, x149003, x149004, x149005 => if x27 = true then (some 30) else (if x149002 < 1 then (precinctref12_one.j1 k true x149000 x149001 x149002 x149003 x149004 x149005) else (if x149002 > 4 then (precinctref12_one.j1 k true x149000 x149001 x149002 x149003 x149004 x149005) else (if x149003 < 1 then (precinctref12_one.j1 k true x149000 x149001 x149002 x149003 x149004 x149005) else (if x149003 > 1048576 then (precinctref12_one.j1 k true x149000 x149001 x149002 x149003 x149004 x149005) else (if x149004 < (-1) then (precinctref12_one.j1 k true x149000 x149001 x149002 x149003 x149004 x149005) else (if x149004 > 7 then (precinctref12_one.j1 k true x149000 x149001 x149002 x149003 x149004 x149005) else (precinctref12_one.j1 k (decide ((x149001.length : Int) > 12)) x149000 x149001 x149002 x149003 x149004 x149005)))))))
def precinctref12_one.j1 : Nat → Bool → ByteArray → List ByteArray → Int → Int → Int → ByteArray → Option (Int)
 | 0, _, _, _, _, _, _, _ => none
 | k + 1, x61, x149000, x149001, x149002, x149003, x149004, x149005 => if x61 = true then (some 31) else (if x149004 = (-1) then (if x149005.toList = ([] : List UInt8) then (some 0) else (some 31)) else ((precinctref11_Named.f k x149005).bind fun t151 => (if t151 = true then (if x149002 = 1 then (some 0) else (some 31)) else (some 31))))
end
def precinctref12_one.f (k : Nat) (a0_0 : ByteArray) (l0_1 : List (S125)) (a1 : Int) : Option (Int) := if 0 ≤ a1 then (if a1 < (l0_1.length : Int) then ((precinctref11_Named.f k ((rd_T125 l0_1 a1).f0)).bind fun t149 => ((precinctref12_Find.f k a0_0 l0_1 ((rd_T125 l0_1 a1).f0)).bind fun t150 => (if t149 = true then (precinctref12_one.j0 k (t150 != a1) ((rd_T125 l0_1 a1).f0) ((rd_T125 l0_1 a1).f1) ((rd_T125 l0_1 a1).f2) ((rd_T125 l0_1 a1).f3) ((rd_T125 l0_1 a1).f4) ((rd_T125 l0_1 a1).f5)) else (precinctref12_one.j0 k true ((rd_T125 l0_1 a1).f0) ((rd_T125 l0_1 a1).f1) ((rd_T125 l0_1 a1).f2) ((rd_T125 l0_1 a1).f3) ((rd_T125 l0_1 a1).f4) ((rd_T125 l0_1 a1).f5))))) else (none)) else (none)
theorem precinctref12_one.mono_l : ∀ k, (∀ y0 y1 y2 y3 y4 y5 y6, LeO (precinctref12_one.j0 k y0 y1 y2 y3 y4 y5 y6) (precinctref12_one.j0 (k + 1) y0 y1 y2 y3 y4 y5 y6)) ∧ (∀ y0 y1 y2 y3 y4 y5 y6, LeO (precinctref12_one.j1 k y0 y1 y2 y3 y4 y5 y6) (precinctref12_one.j1 (k + 1) y0 y1 y2 y3 y4 y5 y6))
 | 0 => ⟨fun _ _ _ _ _ _ _ r h => by simp [precinctref12_one.j0] at h, fun _ _ _ _ _ _ _ r h => by simp [precinctref12_one.j1] at h⟩
 | k + 1 => by
  obtain ⟨ih0, ih1⟩ := precinctref12_one.mono_l k
  refine ⟨?_, ?_⟩
  ·intro y0 y1 y2 y3 y4 y5 y6
   unfold precinctref12_one.j0
   repeat' first
   | (with_reducible exact ih0 _ _ _ _ _ _ _)
   | (with_reducible exact ih1 _ _ _ _ _ _ _)
   | (with_reducible exact precinctref11_Named.mono _ _)
   | (with_reducible exact precinctref12_Find.mono _ _ _ _)
   | (with_reducible exact LeO.refl _)
   | (with_reducible exact LeO.none _)
   | (with_reducible refine LeO.ite ?_ ?_)
   | (with_reducible refine LeO.bind ?_ (fun _ => ?_))
   | exact ih0 _ _ _ _ _ _ _
   | exact ih1 _ _ _ _ _ _ _
   | exact precinctref11_Named.mono _ _
   | exact precinctref12_Find.mono _ _ _ _
   | exact LeO.none _
   | refine LeO.ite ?_ ?_
   | refine LeO.bind ?_ (fun _ => ?_)
  ·intro y0 y1 y2 y3 y4 y5 y6
   unfold precinctref12_one.j1
   repeat' first
   | (with_reducible exact ih0 _ _ _ _ _ _ _)
   | (with_reducible exact ih1 _ _ _ _ _ _ _)
   | (with_reducible exact precinctref11_Named.mono _ _)
   | (with_reducible exact precinctref12_Find.mono _ _ _ _)
   | (with_reducible exact LeO.refl _)
   | (with_reducible exact LeO.none _)
   | (with_reducible refine LeO.ite ?_ ?_)
   | (with_reducible refine LeO.bind ?_ (fun _ => ?_))
   | exact ih0 _ _ _ _ _ _ _
   | exact ih1 _ _ _ _ _ _ _
   | exact precinctref11_Named.mono _ _
   | exact precinctref12_Find.mono _ _ _ _
   | exact LeO.none _
   | refine LeO.ite ?_ ?_
   | refine LeO.bind ?_ (fun _ => ?_)
theorem precinctref12_one.mono : ∀ a0 a1 a2 k, LeO (precinctref12_one.f k a0 a1 a2) (precinctref12_one.f (k + 1) a0 a1 a2) := by
 intro a0 a1 a2 k
 obtain ⟨ih0, ih1⟩ := precinctref12_one.mono_l k
 unfold precinctref12_one.f
 repeat' first
   | (with_reducible exact ih0 _ _ _ _ _ _ _)
   | (with_reducible exact ih1 _ _ _ _ _ _ _)
   | (with_reducible exact precinctref11_Named.mono _ _)
   | (with_reducible exact precinctref12_Find.mono _ _ _ _)
   | (with_reducible exact LeO.refl _)
   | (with_reducible exact LeO.none _)
   | (with_reducible refine LeO.ite ?_ ?_)
   | (with_reducible refine LeO.bind ?_ (fun _ => ?_))
   | exact ih0 _ _ _ _ _ _ _
   | exact ih1 _ _ _ _ _ _ _
   | exact precinctref11_Named.mono _ _
   | exact precinctref12_Find.mono _ _ _ _
   | exact LeO.none _
   | refine LeO.ite ?_ ?_
   | refine LeO.bind ?_ (fun _ => ?_)
set_option maxHeartbeats 8000000 in
set_option maxRecDepth 100000 in
theorem precinctref12_one.calls (k : Nat) (a0_0 : ByteArray) (A0_1 : Option Addr) (c0_1 : Nat) (l0_1 : List (S125)) (a1 : Int) (r : Int) (w : World) (hr0_1 : Kd.C k125 w A0_1 l0_1.length l0_1) (hc0_1 : l0_1.length ≤ c0_1) (h : precinctref12_one.f k a0_0 l0_1 a1 = some r) :
  Calls Try.prog 55 #[.agg #[.string a0_0, .slice A0_1 l0_1.length c0_1], .int .i64 a1] w fun e w' => e = .returned (.int .i64 r) ∧ Below w.heap.size w w' := by
 have hu30 := Try.underlying30
 have hu125 := Try.underlying125
 have HR0_1 := Aside0.mk hr0_1
 have HC0_1 := Aside0.mk hc0_1
 clear hr0_1 hc0_1
 have HB := Aside0.mk (Below.refl w.heap.size w)
 have H : (if 0 ≤ a1 then (if a1 < (l0_1.length : Int) then ((precinctref11_Named.f k ((rd_T125 l0_1 a1).f0)).bind fun t149 => ((precinctref12_Find.f k a0_0 l0_1 ((rd_T125 l0_1 a1).f0)).bind fun t150 => (if t149 = true then (precinctref12_one.j0 k (t150 != a1) ((rd_T125 l0_1 a1).f0) ((rd_T125 l0_1 a1).f1) ((rd_T125 l0_1 a1).f2) ((rd_T125 l0_1 a1).f3) ((rd_T125 l0_1 a1).f4) ((rd_T125 l0_1 a1).f5)) else (precinctref12_one.j0 k true ((rd_T125 l0_1 a1).f0) ((rd_T125 l0_1 a1).f1) ((rd_T125 l0_1 a1).f2) ((rd_T125 l0_1 a1).f3) ((rd_T125 l0_1 a1).f4) ((rd_T125 l0_1 a1).f5))))) else (none)) else (none)) = some r := h
 clear h
 by_cases c3 : 0 ≤ a1
 ·rw [if_pos c3] at H
  have c3b0 : decide (0 ≤ a1) = true := decide_eq_true c3
  clear c3
  by_cases c4 : a1 < (l0_1.length : Int)
  ·rw [if_pos c4] at H
   have c4b0 : decide (a1 < (l0_1.length : Int)) = true := decide_eq_true c4
   clear c4
   replace H := Option.bind_eq_some_iff.mp H
   obtain ⟨t149, A50, H⟩ := H
   replace H : ((precinctref12_Find.f k a0_0 l0_1 ((rd_T125 l0_1 a1).f0)).bind fun t150 => (if t149 = true then (precinctref12_one.j0 k (t150 != a1) ((rd_T125 l0_1 a1).f0) ((rd_T125 l0_1 a1).f1) ((rd_T125 l0_1 a1).f2) ((rd_T125 l0_1 a1).f3) ((rd_T125 l0_1 a1).f4) ((rd_T125 l0_1 a1).f5)) else (precinctref12_one.j0 k true ((rd_T125 l0_1 a1).f0) ((rd_T125 l0_1 a1).f1) ((rd_T125 l0_1 a1).f2) ((rd_T125 l0_1 a1).f3) ((rd_T125 l0_1 a1).f4) ((rd_T125 l0_1 a1).f5)))) = some r := H
   have A5 := Aside0.mk A50
   clear A50
   replace H := Option.bind_eq_some_iff.mp H
   obtain ⟨t150, A60, H⟩ := H
   replace H : (if t149 = true then (precinctref12_one.j0 k (t150 != a1) ((rd_T125 l0_1 a1).f0) ((rd_T125 l0_1 a1).f1) ((rd_T125 l0_1 a1).f2) ((rd_T125 l0_1 a1).f3) ((rd_T125 l0_1 a1).f4) ((rd_T125 l0_1 a1).f5)) else (precinctref12_one.j0 k true ((rd_T125 l0_1 a1).f0) ((rd_T125 l0_1 a1).f1) ((rd_T125 l0_1 a1).f2) ((rd_T125 l0_1 a1).f3) ((rd_T125 l0_1 a1).f4) ((rd_T125 l0_1 a1).f5))) = some r := H
   have A6 := Aside0.mk A60
   clear A60
   have HC7 := Aside0.mk H
   clear H
   go_enter Try.func55, Try.ntmps55
   go_upto_region 4 with (first | ((with_reducible refine gate_dst (N := 2) rfl ?_); (try (refine gate_guard (by rfl) ?_; dsimp only)); refine box_event ?hg (N := 2) ?hd (cs := #[.string a0_0, .slice A0_1 l0_1.length c0_1]) (t := 30) ?hr ?_; (case hd => rfl); (case hg => rfl); (case hr => first | (go_simp; done) | (go_simp; rfl)); intro gb146 hg w8 hbox hb; have n0_ := Aside0.mk (below_step bb hb); have n1_ := Aside0.mk (hbox); have n2_ := Aside0.mk ((by rw [hg]; exact (below_size bb) : w.heap.size ≤ gb146)); have n3_ := Aside0.mk ((by rw [hg]; exact (below_size bb) : w.heap.size ≤ gb146)); clear HB; have HB := n0_; have BK146 := n1_; have GW146 := n2_; have GE146 := n3_; clear n0_ n1_ n2_ n3_; clear hb hbox hg; have hcz9_0 : w8.cell? ⟨gb146, 0, none⟩ = some (.string a0_0) := (blk_cell BK146.out 0).trans rfl; have hcz9_1 : w8.cell? ⟨gb146, 1, none⟩ = some (.slice A0_1 l0_1.length c0_1) := (blk_cell BK146.out 1).trans rfl; have hfz9_0 := blk_frozen BK146.out 0; have hfz9_1 := blk_frozen BK146.out 1; have p147 : 0 ≤ (a1 : Int) := of_decide_eq_true (by first | (with_reducible assumption) | assumption); have q147 : a1 < (l0_1.length : Int) := of_decide_eq_true (by first | (with_reducible assumption) | assumption); obtain ⟨ad147, A147_1, c147_1, e147, hx147_0, hx147_1, hx147_2, hx147_3, hx147_4, hx147_5, hl147_1, hi147_1⟩ := at_T125 HR0_1.out a1 p147 q147; cases e147; replace hx147_0 := (HB.out.cell (World.block_lt_of_cell? w _ hx147_0)).trans hx147_0; replace hx147_1 := (HB.out.cell (World.block_lt_of_cell? w _ hx147_1)).trans hx147_1; replace hx147_2 := (HB.out.cell (World.block_lt_of_cell? w _ hx147_2)).trans hx147_2; replace hx147_3 := (HB.out.cell (World.block_lt_of_cell? w _ hx147_3)).trans hx147_3; replace hx147_4 := (HB.out.cell (World.block_lt_of_cell? w _ hx147_4)).trans hx147_4; replace hx147_5 := (HB.out.cell (World.block_lt_of_cell? w _ hx147_5)).trans hx147_5; have HR147_1 := Aside0.mk hi147_1; have HC147_1 := Aside0.mk hl147_1; clear hi147_1 hl147_1; replace p147 := eq_true p147; replace q147 := eq_true q147) | ((with_reducible refine gate_dst (N := 5) rfl ?_); (try (refine gate_guard (by rfl) ?_; dsimp only)); refine box_event ?hg (N := 5) ?hd (cs := #[.string (⟨#[]⟩ : ByteArray), .slice none 0 0, .int .i64 0, .int .i64 0, .int .i64 0, .string (⟨#[]⟩ : ByteArray)]) (t := 125) ?hr ?_; (case hd => rfl); (case hg => rfl); (case hr => first | (go_simp; done) | (go_simp; rfl)); intro gb148 hg w10 hbox hb; have n0_ := Aside0.mk (blk_below (rb BK146.out) hb); have n1_ := Aside0.mk (below_step bb hb); have n2_ := Aside0.mk (hbox); have n3_ := Aside0.mk ((by rw [hg]; exact (below_size bb) : w.heap.size ≤ gb148)); have n4_ := Aside0.mk ((by rw [hg]; exact (below_size bb) : w.heap.size ≤ gb148)); have n5_ := Aside0.mk ((by rw [hg]; exact Nat.ne_of_lt (blk_lt (rb BK146.out)) : gb146 ≠ gb148)); have n6_ := Aside0.mk ((by rw [hg]; exact Nat.ne_of_gt (blk_lt (rb BK146.out)) : gb148 ≠ gb146)); clear BK146; clear HB; have BK146 := n0_; have HB := n1_; have BK148 := n2_; have GW148 := n3_; have GE148 := n4_; have NB146_148 := n5_; have NB148_146 := n6_; clear n0_ n1_ n2_ n3_ n4_ n5_ n6_; clear hb hbox hg; have hnb11 := NB148_146.out; have hnc11 := NB146_148.out; have hcz12_0 : w10.cell? ⟨gb148, 0, none⟩ = some (.string (⟨#[]⟩ : ByteArray)) := (blk_cell BK148.out 0).trans rfl; have hcz12_1 : w10.cell? ⟨gb148, 1, none⟩ = some (.slice none 0 0) := (blk_cell BK148.out 1).trans rfl; have hcz12_2 : w10.cell? ⟨gb148, 2, none⟩ = some (.int .i64 0) := (blk_cell BK148.out 2).trans rfl; have hcz12_3 : w10.cell? ⟨gb148, 3, none⟩ = some (.int .i64 0) := (blk_cell BK148.out 3).trans rfl; have hcz12_4 : w10.cell? ⟨gb148, 4, none⟩ = some (.int .i64 0) := (blk_cell BK148.out 4).trans rfl; have hcz12_5 : w10.cell? ⟨gb148, 5, none⟩ = some (.string (⟨#[]⟩ : ByteArray)) := (blk_cell BK148.out 5).trans rfl; have hfz12_0 := blk_frozen BK148.out 0; have hfz12_1 := blk_frozen BK148.out 1; have hfz12_2 := blk_frozen BK148.out 2; have hfz12_3 := blk_frozen BK148.out 3; have hfz12_4 := blk_frozen BK148.out 4; have hfz12_5 := blk_frozen BK148.out 5) | ((with_reducible refine gate_callee (f := 54) rfl ?_); refine goesL_ (some 16) rfl rfl Try.func54 (by kernel_rfl) rfl #[.string ((rd_T125 l0_1 a1).f0)] rfl ag ?_; (with_reducible refine (precinctref11_Named.calls k ((rd_T125 l0_1 a1).f0) t149 _ A5.out).mono ?_); rintro e w' ⟨rfl, ⟨nd, rfl⟩⟩; refine ⟨_, rfl, ?_⟩; have hcz13_0 : w10.cell? ⟨gb146, 0, none⟩ = some (.string a0_0) := (blk_cell BK146.out 0).trans rfl; have hcz13_1 : w10.cell? ⟨gb146, 1, none⟩ = some (.slice (some ad147) l0_1.length c0_1) := (blk_cell BK146.out 1).trans rfl; have hfz13_0 := blk_frozen BK146.out 0; have hfz13_1 := blk_frozen BK146.out 1) | ((with_reducible refine gate_callee (f := 92) rfl ?_); refine goesL_ (some 20) rfl rfl Try.func92 (by kernel_rfl) rfl #[.agg #[.string a0_0, .slice (some ad147) l0_1.length c0_1], .string ((rd_T125 l0_1 a1).f0)] rfl ag ?_; (with_reducible refine (precinctref12_Find.calls k a0_0 _ _ l0_1 ((rd_T125 l0_1 a1).f0) t150 _ ?side1 ?side2 A6.out).mono ?_); (case side1 => exact Kd.C_below HR0_1.out bb); (case side2 => exact HC0_1.out); rintro e w14 ⟨rfl, hb⟩; refine ⟨_, rfl, ?_⟩; have n0_ := Aside0.mk (blk_below (rb (blk_far (rb (blk_far (rb (blk_far (rb (blk_far (rb (blk_far (rb (blk_far (rb BK146.out) NB146_148.out _)) NB146_148.out _)) NB146_148.out _)) NB146_148.out _)) NB146_148.out _)) NB146_148.out _)) hb); have n1_ := Aside0.mk (blk_below (rb (blk_put (cs := #[.string ((rd_T125 l0_1 a1).f0), .slice A147_1 ((rd_T125 l0_1 a1).f1).length c147_1, .int .i64 ((rd_T125 l0_1 a1).f2), .int .i64 ((rd_T125 l0_1 a1).f3), .int .i64 ((rd_T125 l0_1 a1).f4), .string (⟨#[]⟩ : ByteArray)]) (rb (blk_put (cs := #[.string ((rd_T125 l0_1 a1).f0), .slice A147_1 ((rd_T125 l0_1 a1).f1).length c147_1, .int .i64 ((rd_T125 l0_1 a1).f2), .int .i64 ((rd_T125 l0_1 a1).f3), .int .i64 0, .string (⟨#[]⟩ : ByteArray)]) (rb (blk_put (cs := #[.string ((rd_T125 l0_1 a1).f0), .slice A147_1 ((rd_T125 l0_1 a1).f1).length c147_1, .int .i64 ((rd_T125 l0_1 a1).f2), .int .i64 0, .int .i64 0, .string (⟨#[]⟩ : ByteArray)]) (rb (blk_put (cs := #[.string ((rd_T125 l0_1 a1).f0), .slice A147_1 ((rd_T125 l0_1 a1).f1).length c147_1, .int .i64 0, .int .i64 0, .int .i64 0, .string (⟨#[]⟩ : ByteArray)]) (rb (blk_put (cs := #[.string ((rd_T125 l0_1 a1).f0), .slice none 0 0, .int .i64 0, .int .i64 0, .int .i64 0, .string (⟨#[]⟩ : ByteArray)]) (rb (blk_put (cs := #[.string (⟨#[]⟩ : ByteArray), .slice none 0 0, .int .i64 0, .int .i64 0, .int .i64 0, .string (⟨#[]⟩ : ByteArray)]) (rb BK148.out) 0 _ rfl)) 1 _ rfl)) 2 _ rfl)) 3 _ rfl)) 4 _ rfl)) 5 _ rfl)) hb); have n2_ := Aside0.mk (below_step bb hb); clear BK146; clear BK148; clear HB; have BK146 := n0_; have BK148 := n1_; have HB := n2_; clear n0_ n1_ n2_; (try clear hb); (try clear hb2); (try clear hk); (try clear hi)))
   (try simp only [Act.put, List.setIfInBounds_toArray, List.set_cons_zero, List.set_cons_succ])
   go_cut [27] (fun v27 wc => ∃ (kq : Nat) (x27_6 : Bool), v27 = .bool x27_6 ∧ Aside0 (precinctref12_one.j0 kq x27_6 ((rd_T125 l0_1 a1).f0) ((rd_T125 l0_1 a1).f1) ((rd_T125 l0_1 a1).f2) ((rd_T125 l0_1 a1).f3) ((rd_T125 l0_1 a1).f4) ((rd_T125 l0_1 a1).f5) = some r) ∧ Aside0 (kq ≤ k) ∧ Aside0 (wc.heap[gb146]? = some (.cells #[.string a0_0, (.slice (some ad147) l0_1.length c0_1)] 30 (0, 0))) ∧ Aside0 (wc.heap[gb148]? = some (.cells #[.string ((rd_T125 l0_1 a1).f0), (.slice A147_1 ((rd_T125 l0_1 a1).f1).length c147_1), .int .i64 ((rd_T125 l0_1 a1).f2), .int .i64 ((rd_T125 l0_1 a1).f3), .int .i64 ((rd_T125 l0_1 a1).f4), .string ((rd_T125 l0_1 a1).f5)] 125 (0, 0))) ∧ Aside0 (Below w.heap.size w wc))
   case first =>
    have H := HC7.out
    clear HC7
    by_cases c15 : t149 = true
    ·subst c15
     have H1 : (precinctref12_one.j0 k (t150 != a1) ((rd_T125 l0_1 a1).f0) ((rd_T125 l0_1 a1).f1) ((rd_T125 l0_1 a1).f2) ((rd_T125 l0_1 a1).f3) ((rd_T125 l0_1 a1).f4) ((rd_T125 l0_1 a1).f5)) = some r := by rw [if_pos rfl] at H; exact H
     clear H
     have H := H1
     clear H1
     have H' := Aside0.mk H
     clear H
     go_wp2
     go_meet
     case rel => exact ⟨_, ((t150 != a1)), (by first | rfl | (simp; done) | (simp [*]; done)), H', ⟨by first | omega | exact Nat.le_refl _⟩, ⟨by (with_reducible repeat (first | refine blk_drewN ?_ _ | refine blk_drew ?_ | refine blk_alloc ?_ _)); exact BK146.out⟩, ⟨by (with_reducible repeat (first | refine blk_drewN ?_ _ | refine blk_drew ?_ | refine blk_alloc ?_ _)); exact BK148.out⟩, ⟨bb⟩⟩
    ·replace c15 := Bool.eq_false_iff.mpr c15
     subst c15
     have H1 : (precinctref12_one.j0 k true ((rd_T125 l0_1 a1).f0) ((rd_T125 l0_1 a1).f1) ((rd_T125 l0_1 a1).f2) ((rd_T125 l0_1 a1).f3) ((rd_T125 l0_1 a1).f4) ((rd_T125 l0_1 a1).f5)) = some r := by rw [if_neg (show ¬ (false = true) by decide)] at H; exact H
     clear H
     have H := H1
     clear H1
     have H' := Aside0.mk H
     clear H
     go_wp2
     go_meet
     case rel => exact ⟨_, (true), (by first | rfl | (simp; done) | (simp [*]; done)), H', ⟨by first | omega | exact Nat.le_refl _⟩, ⟨by (with_reducible repeat (first | refine blk_drewN ?_ _ | refine blk_drew ?_ | refine blk_alloc ?_ _)); exact BK146.out⟩, ⟨by (with_reducible repeat (first | refine blk_drewN ?_ _ | refine blk_drew ?_ | refine blk_alloc ?_ _)); exact BK148.out⟩, ⟨bb⟩⟩
   case rest =>
    clear HC7
    try clear c1
    try clear p1
    try clear q1
    try clear hx1
    try clear p2
    try clear c3
    try clear c3b0
    try clear c4
    try clear c4b0
    try clear c5
    try clear c9
    try clear c11
    try clear c14
    try clear p14
    try clear q14
    try clear hx14
    try clear c15
    try clear hcz12_0
    try clear hcz12_1
    try clear hcz12_2
    try clear hcz12_3
    try clear hcz12_4
    try clear hcz12_5
    try clear hcz13_0
    try clear hcz13_1
    try clear hcz9_0
    try clear hcz9_1
    try clear hfz12_0
    try clear hfz12_1
    try clear hfz12_2
    try clear hfz12_3
    try clear hfz12_4
    try clear hfz12_5
    try clear hfz13_0
    try clear hfz13_1
    try clear hfz9_0
    try clear hfz9_1
    try clear hx147_0
    try clear hx147_1
    try clear hx147_2
    try clear hx147_3
    try clear hx147_4
    try clear hx147_5
    try clear p147
    try clear q147
    obtain ⟨kq, x27_6, rfl, HA, HJ6, BK146, BK148, HB⟩ := hcut
    cases kq with
    | zero => exact absurd HA.out (by simp [precinctref12_one.j0])
    | succ kj6 =>
     have H := HA.out
     clear HA
     simp only [precinctref12_one.j0] at H
     by_cases c16 : x27_6 = true
     ·subst c16
      have H1 : (some 30) = some r := by rw [if_pos rfl] at H; exact H
      clear H
      have H := H1
      clear H1
      obtain rfl := Option.some.inj H
      go_wp2
      go_ret
      exact ⟨by first | rfl | (simp [errW_none, errW_some] <;> rfl) | (simp [*, errW_none, errW_some] <;> rfl), bb⟩
     ·replace c16 := Bool.eq_false_iff.mpr c16
      subst c16
      have H1 : (if ((rd_T125 l0_1 a1).f2) < 1 then (precinctref12_one.j1 kj6 true ((rd_T125 l0_1 a1).f0) ((rd_T125 l0_1 a1).f1) ((rd_T125 l0_1 a1).f2) ((rd_T125 l0_1 a1).f3) ((rd_T125 l0_1 a1).f4) ((rd_T125 l0_1 a1).f5)) else (if ((rd_T125 l0_1 a1).f2) > 4 then (precinctref12_one.j1 kj6 true ((rd_T125 l0_1 a1).f0) ((rd_T125 l0_1 a1).f1) ((rd_T125 l0_1 a1).f2) ((rd_T125 l0_1 a1).f3) ((rd_T125 l0_1 a1).f4) ((rd_T125 l0_1 a1).f5)) else (if ((rd_T125 l0_1 a1).f3) < 1 then (precinctref12_one.j1 kj6 true ((rd_T125 l0_1 a1).f0) ((rd_T125 l0_1 a1).f1) ((rd_T125 l0_1 a1).f2) ((rd_T125 l0_1 a1).f3) ((rd_T125 l0_1 a1).f4) ((rd_T125 l0_1 a1).f5)) else (if ((rd_T125 l0_1 a1).f3) > 1048576 then (precinctref12_one.j1 kj6 true ((rd_T125 l0_1 a1).f0) ((rd_T125 l0_1 a1).f1) ((rd_T125 l0_1 a1).f2) ((rd_T125 l0_1 a1).f3) ((rd_T125 l0_1 a1).f4) ((rd_T125 l0_1 a1).f5)) else (if ((rd_T125 l0_1 a1).f4) < (-1) then (precinctref12_one.j1 kj6 true ((rd_T125 l0_1 a1).f0) ((rd_T125 l0_1 a1).f1) ((rd_T125 l0_1 a1).f2) ((rd_T125 l0_1 a1).f3) ((rd_T125 l0_1 a1).f4) ((rd_T125 l0_1 a1).f5)) else (if ((rd_T125 l0_1 a1).f4) > 7 then (precinctref12_one.j1 kj6 true ((rd_T125 l0_1 a1).f0) ((rd_T125 l0_1 a1).f1) ((rd_T125 l0_1 a1).f2) ((rd_T125 l0_1 a1).f3) ((rd_T125 l0_1 a1).f4) ((rd_T125 l0_1 a1).f5)) else (precinctref12_one.j1 kj6 (decide ((((rd_T125 l0_1 a1).f1).length : Int) > 12)) ((rd_T125 l0_1 a1).f0) ((rd_T125 l0_1 a1).f1) ((rd_T125 l0_1 a1).f2) ((rd_T125 l0_1 a1).f3) ((rd_T125 l0_1 a1).f4) ((rd_T125 l0_1 a1).f5)))))))) = some r := by rw [if_neg (show ¬ (false = true) by decide)] at H; exact H
      clear H
      have H := H1
      clear H1
      have HC17 := Aside0.mk H
      clear H
      go_upto_region 6 with (fail)
      go_cut [61] (fun v61 wc => ∃ (kq : Nat) (x61_16 : Bool), v61 = .bool x61_16 ∧ Aside0 (precinctref12_one.j1 kq x61_16 ((rd_T125 l0_1 a1).f0) ((rd_T125 l0_1 a1).f1) ((rd_T125 l0_1 a1).f2) ((rd_T125 l0_1 a1).f3) ((rd_T125 l0_1 a1).f4) ((rd_T125 l0_1 a1).f5) = some r) ∧ Aside0 (kq ≤ kj6) ∧ Aside0 (wc.heap[gb146]? = some (.cells #[.string a0_0, (.slice (some ad147) l0_1.length c0_1)] 30 (0, 0))) ∧ Aside0 (wc.heap[gb148]? = some (.cells #[.string ((rd_T125 l0_1 a1).f0), (.slice A147_1 ((rd_T125 l0_1 a1).f1).length c147_1), .int .i64 ((rd_T125 l0_1 a1).f2), .int .i64 ((rd_T125 l0_1 a1).f3), .int .i64 ((rd_T125 l0_1 a1).f4), .string ((rd_T125 l0_1 a1).f5)] 125 (0, 0))) ∧ Aside0 (Below w.heap.size w wc))
      case first =>
       have H := HC17.out
       clear HC17
       by_cases c18 : ((rd_T125 l0_1 a1).f2) < 1
       ·rw [if_pos c18] at H
        have c18b0 : decide (((rd_T125 l0_1 a1).f2) < 1) = true := decide_eq_true c18
        clear c18
        (first | rw [c18b0] | (simp only [i64_w, i32_w]; rw [c18b0]) | skip)
        have H' := Aside0.mk H
        clear H
        have hnb19 := NB148_146.out
        have hnc19 := NB146_148.out
        have hcz20_0 : wc.cell? ⟨gb148, 0, none⟩ = some (.string ((rd_T125 l0_1 a1).f0)) := (blk_cell BK148.out 0).trans rfl
        have hcz20_1 : wc.cell? ⟨gb148, 1, none⟩ = some (.slice A147_1 ((rd_T125 l0_1 a1).f1).length c147_1) := (blk_cell BK148.out 1).trans rfl
        have hcz20_2 : wc.cell? ⟨gb148, 2, none⟩ = some (.int .i64 ((rd_T125 l0_1 a1).f2)) := (blk_cell BK148.out 2).trans rfl
        have hcz20_3 : wc.cell? ⟨gb148, 3, none⟩ = some (.int .i64 ((rd_T125 l0_1 a1).f3)) := (blk_cell BK148.out 3).trans rfl
        have hcz20_4 : wc.cell? ⟨gb148, 4, none⟩ = some (.int .i64 ((rd_T125 l0_1 a1).f4)) := (blk_cell BK148.out 4).trans rfl
        have hcz20_5 : wc.cell? ⟨gb148, 5, none⟩ = some (.string ((rd_T125 l0_1 a1).f5)) := (blk_cell BK148.out 5).trans rfl
        have hfz20_0 := blk_frozen BK148.out 0
        have hfz20_1 := blk_frozen BK148.out 1
        have hfz20_2 := blk_frozen BK148.out 2
        have hfz20_3 := blk_frozen BK148.out 3
        have hfz20_4 := blk_frozen BK148.out 4
        have hfz20_5 := blk_frozen BK148.out 5
        go_wp2
        go_meet
        case rel => exact ⟨_, (true), (by first | rfl | (simp; done) | (simp [*]; done)), H', ⟨by have := HJ6.out; first | omega | exact Nat.le_refl _⟩, ⟨by (with_reducible repeat (first | refine blk_drewN ?_ _ | refine blk_drew ?_ | refine blk_alloc ?_ _)); exact BK146.out⟩, ⟨by (with_reducible repeat (first | refine blk_drewN ?_ _ | refine blk_drew ?_ | refine blk_alloc ?_ _)); exact BK148.out⟩, ⟨bb⟩⟩
       ·rw [if_neg c18] at H
        have c18b0 : decide (((rd_T125 l0_1 a1).f2) < 1) = false := decide_eq_false c18
        clear c18
        (first | rw [c18b0] | (simp only [i64_w, i32_w]; rw [c18b0]) | skip)
        by_cases c21 : ((rd_T125 l0_1 a1).f2) > 4
        ·rw [if_pos c21] at H
         have c21b0 : decide (4 < ((rd_T125 l0_1 a1).f2)) = true := decide_eq_true c21
         clear c21
         have H' := Aside0.mk H
         clear H
         have hnb22 := NB148_146.out
         have hnc22 := NB146_148.out
         have hcz23_0 : wc.cell? ⟨gb148, 0, none⟩ = some (.string ((rd_T125 l0_1 a1).f0)) := (blk_cell BK148.out 0).trans rfl
         have hcz23_1 : wc.cell? ⟨gb148, 1, none⟩ = some (.slice A147_1 ((rd_T125 l0_1 a1).f1).length c147_1) := (blk_cell BK148.out 1).trans rfl
         have hcz23_2 : wc.cell? ⟨gb148, 2, none⟩ = some (.int .i64 ((rd_T125 l0_1 a1).f2)) := (blk_cell BK148.out 2).trans rfl
         have hcz23_3 : wc.cell? ⟨gb148, 3, none⟩ = some (.int .i64 ((rd_T125 l0_1 a1).f3)) := (blk_cell BK148.out 3).trans rfl
         have hcz23_4 : wc.cell? ⟨gb148, 4, none⟩ = some (.int .i64 ((rd_T125 l0_1 a1).f4)) := (blk_cell BK148.out 4).trans rfl
         have hcz23_5 : wc.cell? ⟨gb148, 5, none⟩ = some (.string ((rd_T125 l0_1 a1).f5)) := (blk_cell BK148.out 5).trans rfl
         have hfz23_0 := blk_frozen BK148.out 0
         have hfz23_1 := blk_frozen BK148.out 1
         have hfz23_2 := blk_frozen BK148.out 2
         have hfz23_3 := blk_frozen BK148.out 3
         have hfz23_4 := blk_frozen BK148.out 4
         have hfz23_5 := blk_frozen BK148.out 5
         go_wp2
         go_meet
         case rel => exact ⟨_, (true), (by first | rfl | (simp; done) | (simp [*]; done)), H', ⟨by have := HJ6.out; first | omega | exact Nat.le_refl _⟩, ⟨by (with_reducible repeat (first | refine blk_drewN ?_ _ | refine blk_drew ?_ | refine blk_alloc ?_ _)); exact BK146.out⟩, ⟨by (with_reducible repeat (first | refine blk_drewN ?_ _ | refine blk_drew ?_ | refine blk_alloc ?_ _)); exact BK148.out⟩, ⟨bb⟩⟩
        ·rw [if_neg c21] at H
         have c21b0 : decide (4 < ((rd_T125 l0_1 a1).f2)) = false := decide_eq_false c21
         clear c21
         by_cases c24 : ((rd_T125 l0_1 a1).f3) < 1
         ·rw [if_pos c24] at H
          have c24b0 : decide (((rd_T125 l0_1 a1).f3) < 1) = true := decide_eq_true c24
          clear c24
          have H' := Aside0.mk H
          clear H
          have hnb25 := NB148_146.out
          have hnc25 := NB146_148.out
          have hcz26_0 : wc.cell? ⟨gb148, 0, none⟩ = some (.string ((rd_T125 l0_1 a1).f0)) := (blk_cell BK148.out 0).trans rfl
          have hcz26_1 : wc.cell? ⟨gb148, 1, none⟩ = some (.slice A147_1 ((rd_T125 l0_1 a1).f1).length c147_1) := (blk_cell BK148.out 1).trans rfl
          have hcz26_2 : wc.cell? ⟨gb148, 2, none⟩ = some (.int .i64 ((rd_T125 l0_1 a1).f2)) := (blk_cell BK148.out 2).trans rfl
          have hcz26_3 : wc.cell? ⟨gb148, 3, none⟩ = some (.int .i64 ((rd_T125 l0_1 a1).f3)) := (blk_cell BK148.out 3).trans rfl
          have hcz26_4 : wc.cell? ⟨gb148, 4, none⟩ = some (.int .i64 ((rd_T125 l0_1 a1).f4)) := (blk_cell BK148.out 4).trans rfl
          have hcz26_5 : wc.cell? ⟨gb148, 5, none⟩ = some (.string ((rd_T125 l0_1 a1).f5)) := (blk_cell BK148.out 5).trans rfl
          have hfz26_0 := blk_frozen BK148.out 0
          have hfz26_1 := blk_frozen BK148.out 1
          have hfz26_2 := blk_frozen BK148.out 2
          have hfz26_3 := blk_frozen BK148.out 3
          have hfz26_4 := blk_frozen BK148.out 4
          have hfz26_5 := blk_frozen BK148.out 5
          go_wp2
          go_meet
          case rel => exact ⟨_, (true), (by first | rfl | (simp; done) | (simp [*]; done)), H', ⟨by have := HJ6.out; first | omega | exact Nat.le_refl _⟩, ⟨by (with_reducible repeat (first | refine blk_drewN ?_ _ | refine blk_drew ?_ | refine blk_alloc ?_ _)); exact BK146.out⟩, ⟨by (with_reducible repeat (first | refine blk_drewN ?_ _ | refine blk_drew ?_ | refine blk_alloc ?_ _)); exact BK148.out⟩, ⟨bb⟩⟩
         ·rw [if_neg c24] at H
          have c24b0 : decide (((rd_T125 l0_1 a1).f3) < 1) = false := decide_eq_false c24
          clear c24
          by_cases c27 : ((rd_T125 l0_1 a1).f3) > 1048576
          ·rw [if_pos c27] at H
           have c27b0 : decide (1048576 < ((rd_T125 l0_1 a1).f3)) = true := decide_eq_true c27
           clear c27
           have H' := Aside0.mk H
           clear H
           have hnb28 := NB148_146.out
           have hnc28 := NB146_148.out
           have hcz29_0 : wc.cell? ⟨gb148, 0, none⟩ = some (.string ((rd_T125 l0_1 a1).f0)) := (blk_cell BK148.out 0).trans rfl
           have hcz29_1 : wc.cell? ⟨gb148, 1, none⟩ = some (.slice A147_1 ((rd_T125 l0_1 a1).f1).length c147_1) := (blk_cell BK148.out 1).trans rfl
           have hcz29_2 : wc.cell? ⟨gb148, 2, none⟩ = some (.int .i64 ((rd_T125 l0_1 a1).f2)) := (blk_cell BK148.out 2).trans rfl
           have hcz29_3 : wc.cell? ⟨gb148, 3, none⟩ = some (.int .i64 ((rd_T125 l0_1 a1).f3)) := (blk_cell BK148.out 3).trans rfl
           have hcz29_4 : wc.cell? ⟨gb148, 4, none⟩ = some (.int .i64 ((rd_T125 l0_1 a1).f4)) := (blk_cell BK148.out 4).trans rfl
           have hcz29_5 : wc.cell? ⟨gb148, 5, none⟩ = some (.string ((rd_T125 l0_1 a1).f5)) := (blk_cell BK148.out 5).trans rfl
           have hfz29_0 := blk_frozen BK148.out 0
           have hfz29_1 := blk_frozen BK148.out 1
           have hfz29_2 := blk_frozen BK148.out 2
           have hfz29_3 := blk_frozen BK148.out 3
           have hfz29_4 := blk_frozen BK148.out 4
           have hfz29_5 := blk_frozen BK148.out 5
           go_wp2
           go_meet
           case rel => exact ⟨_, (true), (by first | rfl | (simp; done) | (simp [*]; done)), H', ⟨by have := HJ6.out; first | omega | exact Nat.le_refl _⟩, ⟨by (with_reducible repeat (first | refine blk_drewN ?_ _ | refine blk_drew ?_ | refine blk_alloc ?_ _)); exact BK146.out⟩, ⟨by (with_reducible repeat (first | refine blk_drewN ?_ _ | refine blk_drew ?_ | refine blk_alloc ?_ _)); exact BK148.out⟩, ⟨bb⟩⟩
          ·rw [if_neg c27] at H
           have c27b0 : decide (1048576 < ((rd_T125 l0_1 a1).f3)) = false := decide_eq_false c27
           clear c27
           by_cases c30 : ((rd_T125 l0_1 a1).f4) < (-1)
           ·rw [if_pos c30] at H
            have c30b0 : decide (((rd_T125 l0_1 a1).f4) < (-1)) = true := decide_eq_true c30
            clear c30
            have H' := Aside0.mk H
            clear H
            have hnb31 := NB148_146.out
            have hnc31 := NB146_148.out
            have hcz32_0 : wc.cell? ⟨gb148, 0, none⟩ = some (.string ((rd_T125 l0_1 a1).f0)) := (blk_cell BK148.out 0).trans rfl
            have hcz32_1 : wc.cell? ⟨gb148, 1, none⟩ = some (.slice A147_1 ((rd_T125 l0_1 a1).f1).length c147_1) := (blk_cell BK148.out 1).trans rfl
            have hcz32_2 : wc.cell? ⟨gb148, 2, none⟩ = some (.int .i64 ((rd_T125 l0_1 a1).f2)) := (blk_cell BK148.out 2).trans rfl
            have hcz32_3 : wc.cell? ⟨gb148, 3, none⟩ = some (.int .i64 ((rd_T125 l0_1 a1).f3)) := (blk_cell BK148.out 3).trans rfl
            have hcz32_4 : wc.cell? ⟨gb148, 4, none⟩ = some (.int .i64 ((rd_T125 l0_1 a1).f4)) := (blk_cell BK148.out 4).trans rfl
            have hcz32_5 : wc.cell? ⟨gb148, 5, none⟩ = some (.string ((rd_T125 l0_1 a1).f5)) := (blk_cell BK148.out 5).trans rfl
            have hfz32_0 := blk_frozen BK148.out 0
            have hfz32_1 := blk_frozen BK148.out 1
            have hfz32_2 := blk_frozen BK148.out 2
            have hfz32_3 := blk_frozen BK148.out 3
            have hfz32_4 := blk_frozen BK148.out 4
            have hfz32_5 := blk_frozen BK148.out 5
            go_wp2
            go_meet
            case rel => exact ⟨_, (true), (by first | rfl | (simp; done) | (simp [*]; done)), H', ⟨by have := HJ6.out; first | omega | exact Nat.le_refl _⟩, ⟨by (with_reducible repeat (first | refine blk_drewN ?_ _ | refine blk_drew ?_ | refine blk_alloc ?_ _)); exact BK146.out⟩, ⟨by (with_reducible repeat (first | refine blk_drewN ?_ _ | refine blk_drew ?_ | refine blk_alloc ?_ _)); exact BK148.out⟩, ⟨bb⟩⟩
           ·rw [if_neg c30] at H
            have c30b0 : decide (((rd_T125 l0_1 a1).f4) < (-1)) = false := decide_eq_false c30
            clear c30
            by_cases c33 : ((rd_T125 l0_1 a1).f4) > 7
            ·rw [if_pos c33] at H
             have c33b0 : decide (7 < ((rd_T125 l0_1 a1).f4)) = true := decide_eq_true c33
             clear c33
             have H' := Aside0.mk H
             clear H
             have hnb34 := NB148_146.out
             have hnc34 := NB146_148.out
             have hcz35_0 : wc.cell? ⟨gb148, 0, none⟩ = some (.string ((rd_T125 l0_1 a1).f0)) := (blk_cell BK148.out 0).trans rfl
             have hcz35_1 : wc.cell? ⟨gb148, 1, none⟩ = some (.slice A147_1 ((rd_T125 l0_1 a1).f1).length c147_1) := (blk_cell BK148.out 1).trans rfl
             have hcz35_2 : wc.cell? ⟨gb148, 2, none⟩ = some (.int .i64 ((rd_T125 l0_1 a1).f2)) := (blk_cell BK148.out 2).trans rfl
             have hcz35_3 : wc.cell? ⟨gb148, 3, none⟩ = some (.int .i64 ((rd_T125 l0_1 a1).f3)) := (blk_cell BK148.out 3).trans rfl
             have hcz35_4 : wc.cell? ⟨gb148, 4, none⟩ = some (.int .i64 ((rd_T125 l0_1 a1).f4)) := (blk_cell BK148.out 4).trans rfl
             have hcz35_5 : wc.cell? ⟨gb148, 5, none⟩ = some (.string ((rd_T125 l0_1 a1).f5)) := (blk_cell BK148.out 5).trans rfl
             have hfz35_0 := blk_frozen BK148.out 0
             have hfz35_1 := blk_frozen BK148.out 1
             have hfz35_2 := blk_frozen BK148.out 2
             have hfz35_3 := blk_frozen BK148.out 3
             have hfz35_4 := blk_frozen BK148.out 4
             have hfz35_5 := blk_frozen BK148.out 5
             go_wp2
             go_meet
             case rel => exact ⟨_, (true), (by first | rfl | (simp; done) | (simp [*]; done)), H', ⟨by have := HJ6.out; first | omega | exact Nat.le_refl _⟩, ⟨by (with_reducible repeat (first | refine blk_drewN ?_ _ | refine blk_drew ?_ | refine blk_alloc ?_ _)); exact BK146.out⟩, ⟨by (with_reducible repeat (first | refine blk_drewN ?_ _ | refine blk_drew ?_ | refine blk_alloc ?_ _)); exact BK148.out⟩, ⟨bb⟩⟩
            ·rw [if_neg c33] at H
             have c33b0 : decide (7 < ((rd_T125 l0_1 a1).f4)) = false := decide_eq_false c33
             clear c33
             have H' := Aside0.mk H
             clear H
             have hnb36 := NB148_146.out
             have hnc36 := NB146_148.out
             have hcz37_0 : wc.cell? ⟨gb148, 0, none⟩ = some (.string ((rd_T125 l0_1 a1).f0)) := (blk_cell BK148.out 0).trans rfl
             have hcz37_1 : wc.cell? ⟨gb148, 1, none⟩ = some (.slice A147_1 ((rd_T125 l0_1 a1).f1).length c147_1) := (blk_cell BK148.out 1).trans rfl
             have hcz37_2 : wc.cell? ⟨gb148, 2, none⟩ = some (.int .i64 ((rd_T125 l0_1 a1).f2)) := (blk_cell BK148.out 2).trans rfl
             have hcz37_3 : wc.cell? ⟨gb148, 3, none⟩ = some (.int .i64 ((rd_T125 l0_1 a1).f3)) := (blk_cell BK148.out 3).trans rfl
             have hcz37_4 : wc.cell? ⟨gb148, 4, none⟩ = some (.int .i64 ((rd_T125 l0_1 a1).f4)) := (blk_cell BK148.out 4).trans rfl
             have hcz37_5 : wc.cell? ⟨gb148, 5, none⟩ = some (.string ((rd_T125 l0_1 a1).f5)) := (blk_cell BK148.out 5).trans rfl
             have hfz37_0 := blk_frozen BK148.out 0
             have hfz37_1 := blk_frozen BK148.out 1
             have hfz37_2 := blk_frozen BK148.out 2
             have hfz37_3 := blk_frozen BK148.out 3
             have hfz37_4 := blk_frozen BK148.out 4
             have hfz37_5 := blk_frozen BK148.out 5
             go_wp2
             go_meet
             case rel => exact ⟨_, (decide ((((rd_T125 l0_1 a1).f1).length : Int) > 12)), (by first | rfl | (simp; done) | (simp [*]; done)), H', ⟨by have := HJ6.out; first | omega | exact Nat.le_refl _⟩, ⟨by (with_reducible repeat (first | refine blk_drewN ?_ _ | refine blk_drew ?_ | refine blk_alloc ?_ _)); exact BK146.out⟩, ⟨by (with_reducible repeat (first | refine blk_drewN ?_ _ | refine blk_drew ?_ | refine blk_alloc ?_ _)); exact BK148.out⟩, ⟨bb⟩⟩
      case rest =>
       clear HC17
       try clear c1
       try clear p1
       try clear q1
       try clear hx1
       try clear c2
       try clear p2
       try clear c3
       try clear c3b0
       try clear c4
       try clear c4b0
       try clear c5
       try clear c9
       try clear c11
       try clear c14
       try clear p14
       try clear q14
       try clear hx14
       try clear c15
       try clear c16
       try clear c18
       try clear c18b0
       try clear c19
       try clear c21
       try clear c21b0
       try clear c22
       try clear c24
       try clear c24b0
       try clear c25
       try clear c27
       try clear c27b0
       try clear c28
       try clear c30
       try clear c30b0
       try clear c31
       try clear c33
       try clear c33b0
       try clear c34
       try clear c36
       try clear hcz12_0
       try clear hcz12_1
       try clear hcz12_2
       try clear hcz12_3
       try clear hcz12_4
       try clear hcz12_5
       try clear hcz13_0
       try clear hcz13_1
       try clear hcz20_0
       try clear hcz20_1
       try clear hcz20_2
       try clear hcz20_3
       try clear hcz20_4
       try clear hcz20_5
       try clear hcz23_0
       try clear hcz23_1
       try clear hcz23_2
       try clear hcz23_3
       try clear hcz23_4
       try clear hcz23_5
       try clear hcz26_0
       try clear hcz26_1
       try clear hcz26_2
       try clear hcz26_3
       try clear hcz26_4
       try clear hcz26_5
       try clear hcz29_0
       try clear hcz29_1
       try clear hcz29_2
       try clear hcz29_3
       try clear hcz29_4
       try clear hcz29_5
       try clear hcz32_0
       try clear hcz32_1
       try clear hcz32_2
       try clear hcz32_3
       try clear hcz32_4
       try clear hcz32_5
       try clear hcz35_0
       try clear hcz35_1
       try clear hcz35_2
       try clear hcz35_3
       try clear hcz35_4
       try clear hcz35_5
       try clear hcz37_0
       try clear hcz37_1
       try clear hcz37_2
       try clear hcz37_3
       try clear hcz37_4
       try clear hcz37_5
       try clear hcz9_0
       try clear hcz9_1
       try clear hfz12_0
       try clear hfz12_1
       try clear hfz12_2
       try clear hfz12_3
       try clear hfz12_4
       try clear hfz12_5
       try clear hfz13_0
       try clear hfz13_1
       try clear hfz20_0
       try clear hfz20_1
       try clear hfz20_2
       try clear hfz20_3
       try clear hfz20_4
       try clear hfz20_5
       try clear hfz23_0
       try clear hfz23_1
       try clear hfz23_2
       try clear hfz23_3
       try clear hfz23_4
       try clear hfz23_5
       try clear hfz26_0
       try clear hfz26_1
       try clear hfz26_2
       try clear hfz26_3
       try clear hfz26_4
       try clear hfz26_5
       try clear hfz29_0
       try clear hfz29_1
       try clear hfz29_2
       try clear hfz29_3
       try clear hfz29_4
       try clear hfz29_5
       try clear hfz32_0
       try clear hfz32_1
       try clear hfz32_2
       try clear hfz32_3
       try clear hfz32_4
       try clear hfz32_5
       try clear hfz35_0
       try clear hfz35_1
       try clear hfz35_2
       try clear hfz35_3
       try clear hfz35_4
       try clear hfz35_5
       try clear hfz37_0
       try clear hfz37_1
       try clear hfz37_2
       try clear hfz37_3
       try clear hfz37_4
       try clear hfz37_5
       try clear hfz9_0
       try clear hfz9_1
       try clear hx147_0
       try clear hx147_1
       try clear hx147_2
       try clear hx147_3
       try clear hx147_4
       try clear hx147_5
       try clear p1
       try clear p14
       try clear p147
       try clear p2
       try clear q1
       try clear q14
       try clear q147
       obtain ⟨kq, x61_16, rfl, HA, HJ16, BK146, BK148, HB⟩ := hcut
       cases kq with
       | zero => exact absurd HA.out (by simp [precinctref12_one.j1])
       | succ kj16 =>
        have H := HA.out
        clear HA
        simp only [precinctref12_one.j1] at H
        by_cases c38 : x61_16 = true
        ·subst c38
         have H1 : (some 31) = some r := by rw [if_pos rfl] at H; exact H
         clear H
         have H := H1
         clear H1
         obtain rfl := Option.some.inj H
         go_wp2
         go_ret
         exact ⟨by first | rfl | (simp [errW_none, errW_some] <;> rfl) | (simp [*, errW_none, errW_some] <;> rfl), bb⟩
        ·replace c38 := Bool.eq_false_iff.mpr c38
         subst c38
         have H1 : (if ((rd_T125 l0_1 a1).f4) = (-1) then (if ((rd_T125 l0_1 a1).f5).toList = ([] : List UInt8) then (some 0) else (some 31)) else ((precinctref11_Named.f kj16 ((rd_T125 l0_1 a1).f5)).bind fun t151 => (if t151 = true then (if ((rd_T125 l0_1 a1).f2) = 1 then (some 0) else (some 31)) else (some 31)))) = some r := by rw [if_neg (show ¬ (false = true) by decide)] at H; exact H
         clear H
         have H := H1
         clear H1
         by_cases c39 : ((rd_T125 l0_1 a1).f4) = (-1)
         ·rw [if_pos c39] at H
          have c39b0 : (((rd_T125 l0_1 a1).f4) == (-1)) = true := beq_iff_eq.mpr c39
          have c39b1 : (((rd_T125 l0_1 a1).f4) != (-1)) = false := bne_eq_false_iff_eq.mpr c39
          clear c39
          by_cases c40 : ((rd_T125 l0_1 a1).f5).toList = ([] : List UInt8)
          ·rw [if_pos c40] at H
           have c40b0 : (((rd_T125 l0_1 a1).f5).toList == ([] : List UInt8)) = true := beq_iff_eq.mpr c40
           have c40b1 : (((rd_T125 l0_1 a1).f5).toList != ([] : List UInt8)) = false := bne_eq_false_iff_eq.mpr c40
           clear c40
           obtain rfl := Option.some.inj H
           have hnb41 := NB148_146.out
           have hnc41 := NB146_148.out
           have hcz42_0 : wc.cell? ⟨gb148, 0, none⟩ = some (.string ((rd_T125 l0_1 a1).f0)) := (blk_cell BK148.out 0).trans rfl
           have hcz42_1 : wc.cell? ⟨gb148, 1, none⟩ = some (.slice A147_1 ((rd_T125 l0_1 a1).f1).length c147_1) := (blk_cell BK148.out 1).trans rfl
           have hcz42_2 : wc.cell? ⟨gb148, 2, none⟩ = some (.int .i64 ((rd_T125 l0_1 a1).f2)) := (blk_cell BK148.out 2).trans rfl
           have hcz42_3 : wc.cell? ⟨gb148, 3, none⟩ = some (.int .i64 ((rd_T125 l0_1 a1).f3)) := (blk_cell BK148.out 3).trans rfl
           have hcz42_4 : wc.cell? ⟨gb148, 4, none⟩ = some (.int .i64 ((rd_T125 l0_1 a1).f4)) := (blk_cell BK148.out 4).trans rfl
           have hcz42_5 : wc.cell? ⟨gb148, 5, none⟩ = some (.string ((rd_T125 l0_1 a1).f5)) := (blk_cell BK148.out 5).trans rfl
           have hfz42_0 := blk_frozen BK148.out 0
           have hfz42_1 := blk_frozen BK148.out 1
           have hfz42_2 := blk_frozen BK148.out 2
           have hfz42_3 := blk_frozen BK148.out 3
           have hfz42_4 := blk_frozen BK148.out 4
           have hfz42_5 := blk_frozen BK148.out 5
           go_wp2
           go_ret
           exact ⟨by first | rfl | (simp [errW_none, errW_some] <;> rfl) | (simp [*, errW_none, errW_some] <;> rfl), bb⟩
          ·rw [if_neg c40] at H
           have c40b0 : (((rd_T125 l0_1 a1).f5).toList == ([] : List UInt8)) = false := beq_eq_false_iff_ne.mpr c40
           have c40b1 : (((rd_T125 l0_1 a1).f5).toList != ([] : List UInt8)) = true := bne_iff_ne.mpr c40
           obtain rfl := Option.some.inj H
           have hnb43 := NB148_146.out
           have hnc43 := NB146_148.out
           have hcz44_0 : wc.cell? ⟨gb148, 0, none⟩ = some (.string ((rd_T125 l0_1 a1).f0)) := (blk_cell BK148.out 0).trans rfl
           have hcz44_1 : wc.cell? ⟨gb148, 1, none⟩ = some (.slice A147_1 ((rd_T125 l0_1 a1).f1).length c147_1) := (blk_cell BK148.out 1).trans rfl
           have hcz44_2 : wc.cell? ⟨gb148, 2, none⟩ = some (.int .i64 ((rd_T125 l0_1 a1).f2)) := (blk_cell BK148.out 2).trans rfl
           have hcz44_3 : wc.cell? ⟨gb148, 3, none⟩ = some (.int .i64 ((rd_T125 l0_1 a1).f3)) := (blk_cell BK148.out 3).trans rfl
           have hcz44_4 : wc.cell? ⟨gb148, 4, none⟩ = some (.int .i64 ((rd_T125 l0_1 a1).f4)) := (blk_cell BK148.out 4).trans rfl
           have hcz44_5 : wc.cell? ⟨gb148, 5, none⟩ = some (.string ((rd_T125 l0_1 a1).f5)) := (blk_cell BK148.out 5).trans rfl
           have hfz44_0 := blk_frozen BK148.out 0
           have hfz44_1 := blk_frozen BK148.out 1
           have hfz44_2 := blk_frozen BK148.out 2
           have hfz44_3 := blk_frozen BK148.out 3
           have hfz44_4 := blk_frozen BK148.out 4
           have hfz44_5 := blk_frozen BK148.out 5
           go_wp2
           go_ret
           exact ⟨by first | rfl | (simp [errW_none, errW_some] <;> rfl) | (simp [*, errW_none, errW_some] <;> rfl), bb⟩
         ·rw [if_neg c39] at H
          have c39b0 : (((rd_T125 l0_1 a1).f4) == (-1)) = false := beq_eq_false_iff_ne.mpr c39
          have c39b1 : (((rd_T125 l0_1 a1).f4) != (-1)) = true := bne_iff_ne.mpr c39
          replace H := Option.bind_eq_some_iff.mp H
          obtain ⟨t151, A450, H⟩ := H
          replace H : (if t151 = true then (if ((rd_T125 l0_1 a1).f2) = 1 then (some 0) else (some 31)) else (some 31)) = some r := H
          have A45 := Aside0.mk A450
          clear A450
          by_cases c46 : t151 = true
          ·subst c46
           have H1 : (if ((rd_T125 l0_1 a1).f2) = 1 then (some 0) else (some 31)) = some r := by rw [if_pos rfl] at H; exact H
           clear H
           have H := H1
           clear H1
           by_cases c47 : ((rd_T125 l0_1 a1).f2) = 1
           ·rw [if_pos c47] at H
            have c47b0 : (((rd_T125 l0_1 a1).f2) == 1) = true := beq_iff_eq.mpr c47
            have c47b1 : (((rd_T125 l0_1 a1).f2) != 1) = false := bne_eq_false_iff_eq.mpr c47
            clear c47
            obtain rfl := Option.some.inj H
            have hnb48 := NB148_146.out
            have hnc48 := NB146_148.out
            have hcz49_0 : wc.cell? ⟨gb148, 0, none⟩ = some (.string ((rd_T125 l0_1 a1).f0)) := (blk_cell BK148.out 0).trans rfl
            have hcz49_1 : wc.cell? ⟨gb148, 1, none⟩ = some (.slice A147_1 ((rd_T125 l0_1 a1).f1).length c147_1) := (blk_cell BK148.out 1).trans rfl
            have hcz49_2 : wc.cell? ⟨gb148, 2, none⟩ = some (.int .i64 ((rd_T125 l0_1 a1).f2)) := (blk_cell BK148.out 2).trans rfl
            have hcz49_3 : wc.cell? ⟨gb148, 3, none⟩ = some (.int .i64 ((rd_T125 l0_1 a1).f3)) := (blk_cell BK148.out 3).trans rfl
            have hcz49_4 : wc.cell? ⟨gb148, 4, none⟩ = some (.int .i64 ((rd_T125 l0_1 a1).f4)) := (blk_cell BK148.out 4).trans rfl
            have hcz49_5 : wc.cell? ⟨gb148, 5, none⟩ = some (.string ((rd_T125 l0_1 a1).f5)) := (blk_cell BK148.out 5).trans rfl
            have hfz49_0 := blk_frozen BK148.out 0
            have hfz49_1 := blk_frozen BK148.out 1
            have hfz49_2 := blk_frozen BK148.out 2
            have hfz49_3 := blk_frozen BK148.out 3
            have hfz49_4 := blk_frozen BK148.out 4
            have hfz49_5 := blk_frozen BK148.out 5
            go_wp2_with (first | ((with_reducible refine gate_callee (f := 54) rfl ?_); refine goesL_ (some 70) rfl rfl Try.func54 (by kernel_rfl) rfl #[.string ((rd_T125 l0_1 a1).f5)] rfl ag ?_; (with_reducible refine (precinctref11_Named.calls kj16 ((rd_T125 l0_1 a1).f5) true _ A45.out).mono ?_); rintro e w' ⟨rfl, ⟨nd, rfl⟩⟩; refine ⟨_, rfl, ?_⟩))
            go_ret
            exact ⟨by first | rfl | (simp [errW_none, errW_some] <;> rfl) | (simp [*, errW_none, errW_some] <;> rfl), bb⟩
           ·rw [if_neg c47] at H
            have c47b0 : (((rd_T125 l0_1 a1).f2) == 1) = false := beq_eq_false_iff_ne.mpr c47
            have c47b1 : (((rd_T125 l0_1 a1).f2) != 1) = true := bne_iff_ne.mpr c47
            obtain rfl := Option.some.inj H
            have hnb50 := NB148_146.out
            have hnc50 := NB146_148.out
            have hcz51_0 : wc.cell? ⟨gb148, 0, none⟩ = some (.string ((rd_T125 l0_1 a1).f0)) := (blk_cell BK148.out 0).trans rfl
            have hcz51_1 : wc.cell? ⟨gb148, 1, none⟩ = some (.slice A147_1 ((rd_T125 l0_1 a1).f1).length c147_1) := (blk_cell BK148.out 1).trans rfl
            have hcz51_2 : wc.cell? ⟨gb148, 2, none⟩ = some (.int .i64 ((rd_T125 l0_1 a1).f2)) := (blk_cell BK148.out 2).trans rfl
            have hcz51_3 : wc.cell? ⟨gb148, 3, none⟩ = some (.int .i64 ((rd_T125 l0_1 a1).f3)) := (blk_cell BK148.out 3).trans rfl
            have hcz51_4 : wc.cell? ⟨gb148, 4, none⟩ = some (.int .i64 ((rd_T125 l0_1 a1).f4)) := (blk_cell BK148.out 4).trans rfl
            have hcz51_5 : wc.cell? ⟨gb148, 5, none⟩ = some (.string ((rd_T125 l0_1 a1).f5)) := (blk_cell BK148.out 5).trans rfl
            have hfz51_0 := blk_frozen BK148.out 0
            have hfz51_1 := blk_frozen BK148.out 1
            have hfz51_2 := blk_frozen BK148.out 2
            have hfz51_3 := blk_frozen BK148.out 3
            have hfz51_4 := blk_frozen BK148.out 4
            have hfz51_5 := blk_frozen BK148.out 5
            go_wp2_with (first | ((with_reducible refine gate_callee (f := 54) rfl ?_); refine goesL_ (some 70) rfl rfl Try.func54 (by kernel_rfl) rfl #[.string ((rd_T125 l0_1 a1).f5)] rfl ag ?_; (with_reducible refine (precinctref11_Named.calls kj16 ((rd_T125 l0_1 a1).f5) true _ A45.out).mono ?_); rintro e w' ⟨rfl, ⟨nd, rfl⟩⟩; refine ⟨_, rfl, ?_⟩))
            go_ret
            exact ⟨by first | rfl | (simp [errW_none, errW_some] <;> rfl) | (simp [*, errW_none, errW_some] <;> rfl), bb⟩
          ·replace c46 := Bool.eq_false_iff.mpr c46
           subst c46
           have H1 : (some 31) = some r := by rw [if_neg (show ¬ (false = true) by decide)] at H; exact H
           clear H
           have H := H1
           clear H1
           obtain rfl := Option.some.inj H
           have hnb52 := NB148_146.out
           have hnc52 := NB146_148.out
           have hcz53_0 : wc.cell? ⟨gb148, 0, none⟩ = some (.string ((rd_T125 l0_1 a1).f0)) := (blk_cell BK148.out 0).trans rfl
           have hcz53_1 : wc.cell? ⟨gb148, 1, none⟩ = some (.slice A147_1 ((rd_T125 l0_1 a1).f1).length c147_1) := (blk_cell BK148.out 1).trans rfl
           have hcz53_2 : wc.cell? ⟨gb148, 2, none⟩ = some (.int .i64 ((rd_T125 l0_1 a1).f2)) := (blk_cell BK148.out 2).trans rfl
           have hcz53_3 : wc.cell? ⟨gb148, 3, none⟩ = some (.int .i64 ((rd_T125 l0_1 a1).f3)) := (blk_cell BK148.out 3).trans rfl
           have hcz53_4 : wc.cell? ⟨gb148, 4, none⟩ = some (.int .i64 ((rd_T125 l0_1 a1).f4)) := (blk_cell BK148.out 4).trans rfl
           have hcz53_5 : wc.cell? ⟨gb148, 5, none⟩ = some (.string ((rd_T125 l0_1 a1).f5)) := (blk_cell BK148.out 5).trans rfl
           have hfz53_0 := blk_frozen BK148.out 0
           have hfz53_1 := blk_frozen BK148.out 1
           have hfz53_2 := blk_frozen BK148.out 2
           have hfz53_3 := blk_frozen BK148.out 3
           have hfz53_4 := blk_frozen BK148.out 4
           have hfz53_5 := blk_frozen BK148.out 5
           go_wp2_with (first | ((with_reducible refine gate_callee (f := 54) rfl ?_); refine goesL_ (some 70) rfl rfl Try.func54 (by kernel_rfl) rfl #[.string ((rd_T125 l0_1 a1).f5)] rfl ag ?_; (with_reducible refine (precinctref11_Named.calls kj16 ((rd_T125 l0_1 a1).f5) false _ A45.out).mono ?_); rintro e w' ⟨rfl, ⟨nd, rfl⟩⟩; refine ⟨_, rfl, ?_⟩))
           go_ret
           exact ⟨by first | rfl | (simp [errW_none, errW_some] <;> rfl) | (simp [*, errW_none, errW_some] <;> rfl), bb⟩
  ·rw [if_neg c4] at H
   exact absurd H (by simp)
 ·rw [if_neg c3] at H
  exact absurd H (by simp)

end Go.Proofs.Ytjicfkmpgogppaa.PG
