-- printed by a program of this session out of the translation; see NOTES.md
import Derived.Test.YtjicfkmpgogppaaPGx0
import Derived.Test.YtjicfkmpgogppaaRb
namespace Go.Proofs.Ytjicfkmpgogppaa.PG
open Go.RowKit Go.Proofs.YtjicfkmpgogppaaW.PrintWords Go.Proofs.YtjicfkmpgogppaaW.PrintLast Go.Proofs.YtjicfkmpgogppaaW.PrintMore Go.Proofs.YtjicfkmpgogppaaRb
attribute [local go_sem] max2_int min2_int max_two min_two max_three min_three max_four min_four   -- for this text's walks alone
set_option linter.unusedVariables false
set_option linter.unusedSimpArgs false

/-! ### precinctlaw12_same: function 24 -/
mutual
def precinctlaw12_same.j0 : Nat → Bool → Int → Int → ByteArray → List (S54) → Int → Int → ByteArray → List (S57) → Option (Bool)
 | 0, _, _, _, _, _, _, _, _, _ => none
 | k + 1, x33, x312000, x312001, x312002, x312003, x313000, x313001, x313002, x313003 => if x33 = true then (some false) else (precinctlaw12_same.l0 k (x312003.length : Int) 0 x312000 x312001 x312002 x312003 x313000 x313001 x313002 x313003)
def precinctlaw12_same.l0 : Nat → Int → Int → Int → Int → ByteArray → List (S54) → Int → Int → ByteArray → List (S57) → Option (Bool)
 | 0, _, _, _, _, _, _, _, _, _, _ => none
 | k + 1, x36, x37, x312000, x312001, x312002, x312003, x313000, x313001, x313002, x313003 => if x37 < x36 then (if 0 ≤ x37 then (if x37 < (x312003.length : Int) then (if x37 < (x313003.length : Int) then ((precinctlaw12_same.f k ((rd_T54 x312003 x37).f0) ((rd_T54 x312003 x37).f1) ((rd_T54 x312003 x37).f2) ((rd_T54 x312003 x37).f3) ((rd_T57 x313003 x37).f0) ((rd_T57 x313003 x37).f1) ((rd_T57 x313003 x37).f2) ((rd_T57 x313003 x37).f3)).bind fun t315 => (if t315 = true then (precinctlaw12_same.l0 k x36 (wrap64 (x37 + 1)) x312000 x312001 x312002 x312003 x313000 x313001 x313002 x313003) else (some false))) else (none)) else (none)) else (none)) else (some true)
def precinctlaw12_same.f : Nat → Int → Int → ByteArray → List (S54) → Int → Int → ByteArray → List (S57) → Option (Bool)
 | 0, _, _, _, _, _, _, _, _ => none
 | k + 1, a0_0, a0_1, a0_2, l0_3, a1_0, a1_1, a1_2, l1_3 => if a0_0 = a1_0 then (if a0_1 = a1_1 then (if a0_2.toList = a1_2.toList then (precinctlaw12_same.j0 k ((l0_3.length : Int) != (l1_3.length : Int)) a0_0 a0_1 a0_2 l0_3 a1_0 a1_1 a1_2 l1_3) else (precinctlaw12_same.j0 k true a0_0 a0_1 a0_2 l0_3 a1_0 a1_1 a1_2 l1_3)) else (precinctlaw12_same.j0 k true a0_0 a0_1 a0_2 l0_3 a1_0 a1_1 a1_2 l1_3)) else (precinctlaw12_same.j0 k true a0_0 a0_1 a0_2 l0_3 a1_0 a1_1 a1_2 l1_3)
end
theorem precinctlaw12_same.mono_l : ∀ k, (∀ y0 y1 y2 y3 y4 y5 y6 y7, LeO (precinctlaw12_same.f k y0 y1 y2 y3 y4 y5 y6 y7) (precinctlaw12_same.f (k + 1) y0 y1 y2 y3 y4 y5 y6 y7)) ∧ (∀ y0 y1 y2 y3 y4 y5 y6 y7 y8, LeO (precinctlaw12_same.j0 k y0 y1 y2 y3 y4 y5 y6 y7 y8) (precinctlaw12_same.j0 (k + 1) y0 y1 y2 y3 y4 y5 y6 y7 y8)) ∧ (∀ y0 y1 y2 y3 y4 y5 y6 y7 y8 y9, LeO (precinctlaw12_same.l0 k y0 y1 y2 y3 y4 y5 y6 y7 y8 y9) (precinctlaw12_same.l0 (k + 1) y0 y1 y2 y3 y4 y5 y6 y7 y8 y9))
 | 0 => ⟨fun _ _ _ _ _ _ _ _ r h => by simp [precinctlaw12_same.f] at h, fun _ _ _ _ _ _ _ _ _ r h => by simp [precinctlaw12_same.j0] at h, fun _ _ _ _ _ _ _ _ _ _ r h => by simp [precinctlaw12_same.l0] at h⟩
 | k + 1 => by
  obtain ⟨ih0, ih1, ih2⟩ := precinctlaw12_same.mono_l k
  refine ⟨?_, ?_, ?_⟩
  ·intro y0 y1 y2 y3 y4 y5 y6 y7
   unfold precinctlaw12_same.f
   repeat' first
   | (with_reducible exact ih0 _ _ _ _ _ _ _ _)
   | (with_reducible exact ih1 _ _ _ _ _ _ _ _ _)
   | (with_reducible exact ih2 _ _ _ _ _ _ _ _ _ _)
   | (with_reducible exact LeO.refl _)
   | (with_reducible exact LeO.none _)
   | (with_reducible refine LeO.ite ?_ ?_)
   | (with_reducible refine LeO.bind ?_ (fun _ => ?_))
   | exact ih0 _ _ _ _ _ _ _ _
   | exact ih1 _ _ _ _ _ _ _ _ _
   | exact ih2 _ _ _ _ _ _ _ _ _ _
   | exact LeO.none _
   | refine LeO.ite ?_ ?_
   | refine LeO.bind ?_ (fun _ => ?_)
  ·intro y0 y1 y2 y3 y4 y5 y6 y7 y8
   unfold precinctlaw12_same.j0
   repeat' first
   | (with_reducible exact ih0 _ _ _ _ _ _ _ _)
   | (with_reducible exact ih1 _ _ _ _ _ _ _ _ _)
   | (with_reducible exact ih2 _ _ _ _ _ _ _ _ _ _)
   | (with_reducible exact LeO.refl _)
   | (with_reducible exact LeO.none _)
   | (with_reducible refine LeO.ite ?_ ?_)
   | (with_reducible refine LeO.bind ?_ (fun _ => ?_))
   | exact ih0 _ _ _ _ _ _ _ _
   | exact ih1 _ _ _ _ _ _ _ _ _
   | exact ih2 _ _ _ _ _ _ _ _ _ _
   | exact LeO.none _
   | refine LeO.ite ?_ ?_
   | refine LeO.bind ?_ (fun _ => ?_)
  ·intro y0 y1 y2 y3 y4 y5 y6 y7 y8 y9
   unfold precinctlaw12_same.l0
   repeat' first
   | (with_reducible exact ih0 _ _ _ _ _ _ _ _)
   | (with_reducible exact ih1 _ _ _ _ _ _ _ _ _)
   | (with_reducible exact ih2 _ _ _ _ _ _ _ _ _ _)
   | (with_reducible exact LeO.refl _)
   | (with_reducible exact LeO.none _)
   | (with_reducible refine LeO.ite ?_ ?_)
   | (with_reducible refine LeO.bind ?_ (fun _ => ?_))
   | exact ih0 _ _ _ _ _ _ _ _
   | exact ih1 _ _ _ _ _ _ _ _ _
   | exact ih2 _ _ _ _ _ _ _ _ _ _
   | exact LeO.none _
   | refine LeO.ite ?_ ?_
   | refine LeO.bind ?_ (fun _ => ?_)
theorem precinctlaw12_same.mono : ∀ a0 a1 a2 a3 a4 a5 a6 a7 k, LeO (precinctlaw12_same.f k a0 a1 a2 a3 a4 a5 a6 a7) (precinctlaw12_same.f (k + 1) a0 a1 a2 a3 a4 a5 a6 a7) := by
 intro a0 a1 a2 a3 a4 a5 a6 a7 k
 obtain ⟨ih0, ih1, ih2⟩ := precinctlaw12_same.mono_l k
 exact ih0 a0 a1 a2 a3 a4 a5 a6 a7
def precinctlaw12_same.T6 : Bool × List (List Nat × List Nat) := (true, [([], []), ([0], [0]), ([], []), ([1, 2], [1, 2]), ([3], [3]), ([], []), ([5], [5]), ([], []), ([6, 7], [6, 7]), ([8], [8]), ([4, 9], [4, 9]), ([10], [10])])
def precinctlaw12_same.B6 : List Nat := [0, 1, 0, 7, 15, 0, 32, 0, 224, 480, 1023, 2047]
theorem precinctlaw12_same.tab6 : rtab .any (opsOf Try.f24 6) = precinctlaw12_same.T6 := by kernel_rfl
theorem precinctlaw12_same.bits6 : waitsOk precinctlaw12_same.T6.2 precinctlaw12_same.B6 = true := by kernel_rfl
set_option maxHeartbeats 8000000 in
set_option maxRecDepth 100000 in
theorem precinctlaw12_same.calls (k : Nat) : ∀ (a0_0 : Int) (a0_1 : Int) (a0_2 : ByteArray) (A0_3 : Option Addr) (c0_3 : Nat) (l0_3 : List (S54)) (a1_0 : Int) (a1_1 : Int) (a1_2 : ByteArray) (A1_3 : Option Addr) (c1_3 : Nat) (l1_3 : List (S57)) (r : Bool) (w : World) (hr0_3 : Kd.C k54 w A0_3 l0_3.length l0_3) (hc0_3 : l0_3.length ≤ c0_3) (hr1_3 : Kd.C k57 w A1_3 l1_3.length l1_3) (hc1_3 : l1_3.length ≤ c1_3) (h : precinctlaw12_same.f k a0_0 a0_1 a0_2 l0_3 a1_0 a1_1 a1_2 l1_3 = some r),
  Calls Try.prog 24 #[.agg #[.int .i64 a0_0, .int .i64 a0_1, .string a0_2, .slice A0_3 l0_3.length c0_3], .agg #[.int .i64 a1_0, .int .i64 a1_1, .string a1_2, .slice A1_3 l1_3.length c1_3]] w fun e w' => e = .returned (.bool r) ∧ Below w.heap.size w w' := by
 induction k using Nat.strongRecOn with
 | _ k ih =>
 intro a0_0 a0_1 a0_2 A0_3 c0_3 l0_3 a1_0 a1_1 a1_2 A1_3 c1_3 l1_3 r w hr0_3 hc0_3 hr1_3 hc1_3 h
 cases k with
 | zero => exact absurd h (by simp [precinctlaw12_same.f])
 | succ k =>
 simp only [precinctlaw12_same.f] at h
 have hu54 := Try.underlying54
 have hu57 := Try.underlying57
 have HR0_3 := Aside0.mk hr0_3
 have HC0_3 := Aside0.mk hc0_3
 clear hr0_3 hc0_3
 have HR1_3 := Aside0.mk hr1_3
 have HC1_3 := Aside0.mk hc1_3
 clear hr1_3 hc1_3
 have HB := Aside0.mk (Below.refl w.heap.size w)
 have H : (if a0_0 = a1_0 then (if a0_1 = a1_1 then (if a0_2.toList = a1_2.toList then (precinctlaw12_same.j0 k ((l0_3.length : Int) != (l1_3.length : Int)) a0_0 a0_1 a0_2 l0_3 a1_0 a1_1 a1_2 l1_3) else (precinctlaw12_same.j0 k true a0_0 a0_1 a0_2 l0_3 a1_0 a1_1 a1_2 l1_3)) else (precinctlaw12_same.j0 k true a0_0 a0_1 a0_2 l0_3 a1_0 a1_1 a1_2 l1_3)) else (precinctlaw12_same.j0 k true a0_0 a0_1 a0_2 l0_3 a1_0 a1_1 a1_2 l1_3)) = some r := h
 clear h
 have HC3 := Aside0.mk H
 clear H
 go_enter Try.func24, Try.ntmps24
 go_upto_region 1 with (first | ((with_reducible refine gate_dst (N := 2) rfl ?_); (try (refine gate_guard (by rfl) ?_; dsimp only)); refine box_event ?hg (N := 2) ?hd (cs := #[.int .i64 a0_0, .int .i64 a0_1, .string a0_2, .slice A0_3 l0_3.length c0_3]) (t := 54) ?hr ?_; (case hd => rfl); (case hg => rfl); (case hr => first | (go_simp; done) | (go_simp; rfl)); intro gb311 hg w4 hbox hb; have n0_ := Aside0.mk (below_step bb hb); have n1_ := Aside0.mk (hbox); have n2_ := Aside0.mk ((by rw [hg]; exact (below_size bb) : w.heap.size ≤ gb311)); have n3_ := Aside0.mk ((by rw [hg]; exact (below_size bb) : w.heap.size ≤ gb311)); clear HB; have HB := n0_; have BK311 := n1_; have GW311 := n2_; have GE311 := n3_; clear n0_ n1_ n2_ n3_; clear hb hbox hg) | ((with_reducible refine gate_dst (N := 3) rfl ?_); (try (refine gate_guard (by rfl) ?_; dsimp only)); refine box_event ?hg (N := 3) ?hd (cs := #[.int .i64 a1_0, .int .i64 a1_1, .string a1_2, .slice A1_3 l1_3.length c1_3]) (t := 57) ?hr ?_; (case hd => rfl); (case hg => rfl); (case hr => first | (go_simp; done) | (go_simp; rfl)); intro gb312 hg w5 hbox hb; have n0_ := Aside0.mk (blk_below (rb BK311.out) hb); have n1_ := Aside0.mk (below_step bb hb); have n2_ := Aside0.mk (hbox); have n3_ := Aside0.mk ((by rw [hg]; exact (below_size bb) : w.heap.size ≤ gb312)); have n4_ := Aside0.mk ((by rw [hg]; exact (below_size bb) : w.heap.size ≤ gb312)); have n5_ := Aside0.mk ((by rw [hg]; exact Nat.ne_of_lt (blk_lt (rb BK311.out)) : gb311 ≠ gb312)); have n6_ := Aside0.mk ((by rw [hg]; exact Nat.ne_of_gt (blk_lt (rb BK311.out)) : gb312 ≠ gb311)); clear BK311; clear HB; have BK311 := n0_; have HB := n1_; have BK312 := n2_; have GW312 := n3_; have GE312 := n4_; have NB311_312 := n5_; have NB312_311 := n6_; clear n0_ n1_ n2_ n3_ n4_ n5_ n6_; clear hb hbox hg))
 (try simp only [Act.put, List.setIfInBounds_toArray, List.set_cons_zero, List.set_cons_succ])
 go_cut [33] (fun v33 wc => ∃ (kq : Nat) (x33_2 : Bool), v33 = .bool x33_2 ∧ Aside0 (precinctlaw12_same.j0 kq x33_2 a0_0 a0_1 a0_2 l0_3 a1_0 a1_1 a1_2 l1_3 = some r) ∧ Aside0 (kq ≤ k) ∧ Aside0 (wc.heap[gb311]? = some (.cells #[.int .i64 a0_0, .int .i64 a0_1, .string a0_2, (.slice A0_3 l0_3.length c0_3)] 54 (0, 0))) ∧ Aside0 (wc.heap[gb312]? = some (.cells #[.int .i64 a1_0, .int .i64 a1_1, .string a1_2, (.slice A1_3 l1_3.length c1_3)] 57 (0, 0))) ∧ Aside0 (Below w.heap.size w wc))
 case first =>
  have H := HC3.out
  clear HC3
  by_cases c6 : a0_0 = a1_0
  ·rw [if_pos c6] at H
   have c6b0 : (a0_0 == a1_0) = true := beq_iff_eq.mpr c6
   have c6b1 : (a0_0 != a1_0) = false := bne_eq_false_iff_eq.mpr c6
   clear c6
   (first | rw [c6b0] | (simp only [i64_w, i32_w]; rw [c6b0]) | skip)
   by_cases c7 : a0_1 = a1_1
   ·rw [if_pos c7] at H
    have c7b0 : (a0_1 == a1_1) = true := beq_iff_eq.mpr c7
    have c7b1 : (a0_1 != a1_1) = false := bne_eq_false_iff_eq.mpr c7
    clear c7
    by_cases c8 : a0_2.toList = a1_2.toList
    ·rw [if_pos c8] at H
     have c8b0 : (a0_2.toList == a1_2.toList) = true := beq_iff_eq.mpr c8
     have c8b1 : (a0_2.toList != a1_2.toList) = false := bne_eq_false_iff_eq.mpr c8
     clear c8
     have H' := Aside0.mk H
     clear H
     have hnb9 := NB311_312.out
     have hnc9 := NB312_311.out
     have hcz10_0 : w5.cell? ⟨gb311, 0, none⟩ = some (.int .i64 a0_0) := (blk_cell BK311.out 0).trans rfl
     have hcz10_1 : w5.cell? ⟨gb311, 1, none⟩ = some (.int .i64 a0_1) := (blk_cell BK311.out 1).trans rfl
     have hcz10_2 : w5.cell? ⟨gb311, 2, none⟩ = some (.string a0_2) := (blk_cell BK311.out 2).trans rfl
     have hcz10_3 : w5.cell? ⟨gb311, 3, none⟩ = some (.slice A0_3 l0_3.length c0_3) := (blk_cell BK311.out 3).trans rfl
     have hfz10_0 := blk_frozen BK311.out 0
     have hfz10_1 := blk_frozen BK311.out 1
     have hfz10_2 := blk_frozen BK311.out 2
     have hfz10_3 := blk_frozen BK311.out 3
     have hcz11_0 : w5.cell? ⟨gb312, 0, none⟩ = some (.int .i64 a1_0) := (blk_cell BK312.out 0).trans rfl
     have hcz11_1 : w5.cell? ⟨gb312, 1, none⟩ = some (.int .i64 a1_1) := (blk_cell BK312.out 1).trans rfl
     have hcz11_2 : w5.cell? ⟨gb312, 2, none⟩ = some (.string a1_2) := (blk_cell BK312.out 2).trans rfl
     have hcz11_3 : w5.cell? ⟨gb312, 3, none⟩ = some (.slice A1_3 l1_3.length c1_3) := (blk_cell BK312.out 3).trans rfl
     have hfz11_0 := blk_frozen BK312.out 0
     have hfz11_1 := blk_frozen BK312.out 1
     have hfz11_2 := blk_frozen BK312.out 2
     have hfz11_3 := blk_frozen BK312.out 3
     go_wp2
     go_meet
     case rel => exact ⟨_, (((l0_3.length : Int) != (l1_3.length : Int))), (by first | rfl | (simp; done) | (simp [*]; done)), H', ⟨by first | omega | exact Nat.le_refl _⟩, ⟨by (with_reducible repeat (first | refine blk_drewN ?_ _ | refine blk_drew ?_ | refine blk_alloc ?_ _)); exact BK311.out⟩, ⟨by (with_reducible repeat (first | refine blk_drewN ?_ _ | refine blk_drew ?_ | refine blk_alloc ?_ _)); exact BK312.out⟩, ⟨bb⟩⟩
    ·rw [if_neg c8] at H
     have c8b0 : (a0_2.toList == a1_2.toList) = false := beq_eq_false_iff_ne.mpr c8
     have c8b1 : (a0_2.toList != a1_2.toList) = true := bne_iff_ne.mpr c8
     have H' := Aside0.mk H
     clear H
     have hnb12 := NB311_312.out
     have hnc12 := NB312_311.out
     have hcz13_0 : w5.cell? ⟨gb311, 0, none⟩ = some (.int .i64 a0_0) := (blk_cell BK311.out 0).trans rfl
     have hcz13_1 : w5.cell? ⟨gb311, 1, none⟩ = some (.int .i64 a0_1) := (blk_cell BK311.out 1).trans rfl
     have hcz13_2 : w5.cell? ⟨gb311, 2, none⟩ = some (.string a0_2) := (blk_cell BK311.out 2).trans rfl
     have hcz13_3 : w5.cell? ⟨gb311, 3, none⟩ = some (.slice A0_3 l0_3.length c0_3) := (blk_cell BK311.out 3).trans rfl
     have hfz13_0 := blk_frozen BK311.out 0
     have hfz13_1 := blk_frozen BK311.out 1
     have hfz13_2 := blk_frozen BK311.out 2
     have hfz13_3 := blk_frozen BK311.out 3
     have hcz14_0 : w5.cell? ⟨gb312, 0, none⟩ = some (.int .i64 a1_0) := (blk_cell BK312.out 0).trans rfl
     have hcz14_1 : w5.cell? ⟨gb312, 1, none⟩ = some (.int .i64 a1_1) := (blk_cell BK312.out 1).trans rfl
     have hcz14_2 : w5.cell? ⟨gb312, 2, none⟩ = some (.string a1_2) := (blk_cell BK312.out 2).trans rfl
     have hcz14_3 : w5.cell? ⟨gb312, 3, none⟩ = some (.slice A1_3 l1_3.length c1_3) := (blk_cell BK312.out 3).trans rfl
     have hfz14_0 := blk_frozen BK312.out 0
     have hfz14_1 := blk_frozen BK312.out 1
     have hfz14_2 := blk_frozen BK312.out 2
     have hfz14_3 := blk_frozen BK312.out 3
     go_wp2
     go_meet
     case rel => exact ⟨_, (true), (by first | rfl | (simp; done) | (simp [*]; done)), H', ⟨by first | omega | exact Nat.le_refl _⟩, ⟨by (with_reducible repeat (first | refine blk_drewN ?_ _ | refine blk_drew ?_ | refine blk_alloc ?_ _)); exact BK311.out⟩, ⟨by (with_reducible repeat (first | refine blk_drewN ?_ _ | refine blk_drew ?_ | refine blk_alloc ?_ _)); exact BK312.out⟩, ⟨bb⟩⟩
   ·rw [if_neg c7] at H
    have c7b0 : (a0_1 == a1_1) = false := beq_eq_false_iff_ne.mpr c7
    have c7b1 : (a0_1 != a1_1) = true := bne_iff_ne.mpr c7
    have H' := Aside0.mk H
    clear H
    have hnb15 := NB311_312.out
    have hnc15 := NB312_311.out
    have hcz16_0 : w5.cell? ⟨gb311, 0, none⟩ = some (.int .i64 a0_0) := (blk_cell BK311.out 0).trans rfl
    have hcz16_1 : w5.cell? ⟨gb311, 1, none⟩ = some (.int .i64 a0_1) := (blk_cell BK311.out 1).trans rfl
    have hcz16_2 : w5.cell? ⟨gb311, 2, none⟩ = some (.string a0_2) := (blk_cell BK311.out 2).trans rfl
    have hcz16_3 : w5.cell? ⟨gb311, 3, none⟩ = some (.slice A0_3 l0_3.length c0_3) := (blk_cell BK311.out 3).trans rfl
    have hfz16_0 := blk_frozen BK311.out 0
    have hfz16_1 := blk_frozen BK311.out 1
    have hfz16_2 := blk_frozen BK311.out 2
    have hfz16_3 := blk_frozen BK311.out 3
    have hcz17_0 : w5.cell? ⟨gb312, 0, none⟩ = some (.int .i64 a1_0) := (blk_cell BK312.out 0).trans rfl
    have hcz17_1 : w5.cell? ⟨gb312, 1, none⟩ = some (.int .i64 a1_1) := (blk_cell BK312.out 1).trans rfl
    have hcz17_2 : w5.cell? ⟨gb312, 2, none⟩ = some (.string a1_2) := (blk_cell BK312.out 2).trans rfl
    have hcz17_3 : w5.cell? ⟨gb312, 3, none⟩ = some (.slice A1_3 l1_3.length c1_3) := (blk_cell BK312.out 3).trans rfl
    have hfz17_0 := blk_frozen BK312.out 0
    have hfz17_1 := blk_frozen BK312.out 1
    have hfz17_2 := blk_frozen BK312.out 2
    have hfz17_3 := blk_frozen BK312.out 3
    go_wp2
    go_meet
    case rel => exact ⟨_, (true), (by first | rfl | (simp; done) | (simp [*]; done)), H', ⟨by first | omega | exact Nat.le_refl _⟩, ⟨by (with_reducible repeat (first | refine blk_drewN ?_ _ | refine blk_drew ?_ | refine blk_alloc ?_ _)); exact BK311.out⟩, ⟨by (with_reducible repeat (first | refine blk_drewN ?_ _ | refine blk_drew ?_ | refine blk_alloc ?_ _)); exact BK312.out⟩, ⟨bb⟩⟩
  ·rw [if_neg c6] at H
   have c6b0 : (a0_0 == a1_0) = false := beq_eq_false_iff_ne.mpr c6
   have c6b1 : (a0_0 != a1_0) = true := bne_iff_ne.mpr c6
   (first | rw [c6b0] | (simp only [i64_w, i32_w]; rw [c6b0]) | skip)
   have H' := Aside0.mk H
   clear H
   have hnb18 := NB311_312.out
   have hnc18 := NB312_311.out
   have hcz19_0 : w5.cell? ⟨gb311, 0, none⟩ = some (.int .i64 a0_0) := (blk_cell BK311.out 0).trans rfl
   have hcz19_1 : w5.cell? ⟨gb311, 1, none⟩ = some (.int .i64 a0_1) := (blk_cell BK311.out 1).trans rfl
   have hcz19_2 : w5.cell? ⟨gb311, 2, none⟩ = some (.string a0_2) := (blk_cell BK311.out 2).trans rfl
   have hcz19_3 : w5.cell? ⟨gb311, 3, none⟩ = some (.slice A0_3 l0_3.length c0_3) := (blk_cell BK311.out 3).trans rfl
   have hfz19_0 := blk_frozen BK311.out 0
   have hfz19_1 := blk_frozen BK311.out 1
   have hfz19_2 := blk_frozen BK311.out 2
   have hfz19_3 := blk_frozen BK311.out 3
   have hcz20_0 : w5.cell? ⟨gb312, 0, none⟩ = some (.int .i64 a1_0) := (blk_cell BK312.out 0).trans rfl
   have hcz20_1 : w5.cell? ⟨gb312, 1, none⟩ = some (.int .i64 a1_1) := (blk_cell BK312.out 1).trans rfl
   have hcz20_2 : w5.cell? ⟨gb312, 2, none⟩ = some (.string a1_2) := (blk_cell BK312.out 2).trans rfl
   have hcz20_3 : w5.cell? ⟨gb312, 3, none⟩ = some (.slice A1_3 l1_3.length c1_3) := (blk_cell BK312.out 3).trans rfl
   have hfz20_0 := blk_frozen BK312.out 0
   have hfz20_1 := blk_frozen BK312.out 1
   have hfz20_2 := blk_frozen BK312.out 2
   have hfz20_3 := blk_frozen BK312.out 3
   go_wp2
   go_meet
   case rel => exact ⟨_, (true), (by first | rfl | (simp; done) | (simp [*]; done)), H', ⟨by first | omega | exact Nat.le_refl _⟩, ⟨by (with_reducible repeat (first | refine blk_drewN ?_ _ | refine blk_drew ?_ | refine blk_alloc ?_ _)); exact BK311.out⟩, ⟨by (with_reducible repeat (first | refine blk_drewN ?_ _ | refine blk_drew ?_ | refine blk_alloc ?_ _)); exact BK312.out⟩, ⟨bb⟩⟩
 case rest =>
  clear HC3
  try clear c1
  try clear c2
  try clear p2
  try clear c6
  try clear c6b0
  try clear c6b1
  try clear c7
  try clear c7b0
  try clear c7b1
  try clear c8
  try clear c8b0
  try clear c8b1
  try clear c9
  try clear c12
  try clear c15
  try clear c18
  try clear hcz10_0
  try clear hcz10_1
  try clear hcz10_2
  try clear hcz10_3
  try clear hcz11_0
  try clear hcz11_1
  try clear hcz11_2
  try clear hcz11_3
  try clear hcz13_0
  try clear hcz13_1
  try clear hcz13_2
  try clear hcz13_3
  try clear hcz14_0
  try clear hcz14_1
  try clear hcz14_2
  try clear hcz14_3
  try clear hcz16_0
  try clear hcz16_1
  try clear hcz16_2
  try clear hcz16_3
  try clear hcz17_0
  try clear hcz17_1
  try clear hcz17_2
  try clear hcz17_3
  try clear hcz19_0
  try clear hcz19_1
  try clear hcz19_2
  try clear hcz19_3
  try clear hcz20_0
  try clear hcz20_1
  try clear hcz20_2
  try clear hcz20_3
  try clear hfz10_0
  try clear hfz10_1
  try clear hfz10_2
  try clear hfz10_3
  try clear hfz11_0
  try clear hfz11_1
  try clear hfz11_2
  try clear hfz11_3
  try clear hfz13_0
  try clear hfz13_1
  try clear hfz13_2
  try clear hfz13_3
  try clear hfz14_0
  try clear hfz14_1
  try clear hfz14_2
  try clear hfz14_3
  try clear hfz16_0
  try clear hfz16_1
  try clear hfz16_2
  try clear hfz16_3
  try clear hfz17_0
  try clear hfz17_1
  try clear hfz17_2
  try clear hfz17_3
  try clear hfz19_0
  try clear hfz19_1
  try clear hfz19_2
  try clear hfz19_3
  try clear hfz20_0
  try clear hfz20_1
  try clear hfz20_2
  try clear hfz20_3
  obtain ⟨kq, x33_2, rfl, HA, HJ2, BK311, BK312, HB⟩ := hcut
  cases kq with
  | zero => exact absurd HA.out (by simp [precinctlaw12_same.j0])
  | succ kj2 =>
   have H := HA.out
   clear HA
   simp only [precinctlaw12_same.j0] at H
   by_cases c21 : x33_2 = true
   ·subst c21
    have H1 : (some false) = some r := by rw [if_pos rfl] at H; exact H
    clear H
    have H := H1
    clear H1
    obtain rfl := Option.some.inj H
    go_wp2
    go_ret
    exact ⟨by first | rfl | (simp [errW_none, errW_some] <;> rfl) | (simp [*, errW_none, errW_some] <;> rfl), bb⟩
   ·replace c21 := Bool.eq_false_iff.mpr c21
    subst c21
    have H1 : (precinctlaw12_same.l0 kj2 (l0_3.length : Int) 0 a0_0 a0_1 a0_2 l0_3 a1_0 a1_1 a1_2 l1_3) = some r := by rw [if_neg (show ¬ (false = true) by decide)] at H; exact H
    clear H
    have H := H1
    clear H1
    have H' := Aside0.mk H
    clear H
    have hnb22 := NB311_312.out
    have hnc22 := NB312_311.out
    have hcz23_0 : wc.cell? ⟨gb311, 0, none⟩ = some (.int .i64 a0_0) := (blk_cell BK311.out 0).trans rfl
    have hcz23_1 : wc.cell? ⟨gb311, 1, none⟩ = some (.int .i64 a0_1) := (blk_cell BK311.out 1).trans rfl
    have hcz23_2 : wc.cell? ⟨gb311, 2, none⟩ = some (.string a0_2) := (blk_cell BK311.out 2).trans rfl
    have hcz23_3 : wc.cell? ⟨gb311, 3, none⟩ = some (.slice A0_3 l0_3.length c0_3) := (blk_cell BK311.out 3).trans rfl
    have hfz23_0 := blk_frozen BK311.out 0
    have hfz23_1 := blk_frozen BK311.out 1
    have hfz23_2 := blk_frozen BK311.out 2
    have hfz23_3 := blk_frozen BK311.out 3
    go_wp2
    go_loopg [37] kj2 (fun kq v37 w' => ∃ (x37_2 : Int), v37 = .int .i64 x37_2 ∧ Aside0 (precinctlaw12_same.l0 kq (l0_3.length : Int) x37_2 a0_0 a0_1 a0_2 l0_3 a1_0 a1_1 a1_2 l1_3 = some r) ∧ Aside0 (kq ≤ kj2) ∧ Aside0 (w'.heap[gb311]? = some (.cells #[.int .i64 a0_0, .int .i64 a0_1, .string a0_2, (.slice A0_3 l0_3.length c0_3)] 54 (0, 0))) ∧ Aside0 (w'.heap[gb312]? = some (.cells #[.int .i64 a1_0, .int .i64 a1_1, .string a1_2, (.slice A1_3 l1_3.length c1_3)] 57 (0, 0))) ∧ Aside0 (Below w.heap.size w w'))
    case atStart => exact ⟨(0), (by first | rfl | (simp; done) | (simp [*]; done)), H', ⟨Nat.le_refl _⟩, ⟨by (with_reducible repeat (first | refine blk_drewN ?_ _ | refine blk_drew ?_ | refine blk_alloc ?_ _)); exact BK311.out⟩, ⟨by (with_reducible repeat (first | refine blk_drewN ?_ _ | refine blk_drew ?_ | refine blk_alloc ?_ _)); exact BK312.out⟩, ⟨bb⟩⟩
    case round =>
     clear H'
     try clear c1
     try clear c2
     try clear p2
     try clear c6
     try clear c6b0
     try clear c6b1
     try clear c7
     try clear c7b0
     try clear c7b1
     try clear c8
     try clear c8b0
     try clear c8b1
     try clear c9
     try clear c12
     try clear c15
     try clear c18
     try clear c21
     try clear c22
     try clear hcz10_0
     try clear hcz10_1
     try clear hcz10_2
     try clear hcz10_3
     try clear hcz11_0
     try clear hcz11_1
     try clear hcz11_2
     try clear hcz11_3
     try clear hcz13_0
     try clear hcz13_1
     try clear hcz13_2
     try clear hcz13_3
     try clear hcz14_0
     try clear hcz14_1
     try clear hcz14_2
     try clear hcz14_3
     try clear hcz16_0
     try clear hcz16_1
     try clear hcz16_2
     try clear hcz16_3
     try clear hcz17_0
     try clear hcz17_1
     try clear hcz17_2
     try clear hcz17_3
     try clear hcz19_0
     try clear hcz19_1
     try clear hcz19_2
     try clear hcz19_3
     try clear hcz20_0
     try clear hcz20_1
     try clear hcz20_2
     try clear hcz20_3
     try clear hcz23_0
     try clear hcz23_1
     try clear hcz23_2
     try clear hcz23_3
     try clear hfz10_0
     try clear hfz10_1
     try clear hfz10_2
     try clear hfz10_3
     try clear hfz11_0
     try clear hfz11_1
     try clear hfz11_2
     try clear hfz11_3
     try clear hfz13_0
     try clear hfz13_1
     try clear hfz13_2
     try clear hfz13_3
     try clear hfz14_0
     try clear hfz14_1
     try clear hfz14_2
     try clear hfz14_3
     try clear hfz16_0
     try clear hfz16_1
     try clear hfz16_2
     try clear hfz16_3
     try clear hfz17_0
     try clear hfz17_1
     try clear hfz17_2
     try clear hfz17_3
     try clear hfz19_0
     try clear hfz19_1
     try clear hfz19_2
     try clear hfz19_3
     try clear hfz20_0
     try clear hfz20_1
     try clear hfz20_2
     try clear hfz20_3
     try clear hfz23_0
     try clear hfz23_1
     try clear hfz23_2
     try clear hfz23_3
     try clear p2
     obtain ⟨x37_2, rfl, HA, HK2, BK311, BK312, HB⟩ := hrel
     cases gk with
     | zero => exact absurd HA.out (by simp [precinctlaw12_same.l0])
     | succ k2 =>
      have H := HA.out
      clear HA
      simp only [precinctlaw12_same.l0] at H
      by_cases c24 : x37_2 < (l0_3.length : Int)
      ·rw [if_pos c24] at H
       have c24b0 : decide (x37_2 < (l0_3.length : Int)) = true := decide_eq_true c24
       clear c24
       by_cases c25 : 0 ≤ x37_2
       ·rw [if_pos c25] at H
        have c25b0 : decide (0 ≤ x37_2) = true := decide_eq_true c25
        clear c25
        by_cases c26 : x37_2 < (l0_3.length : Int)
        ·rw [if_pos c26] at H
         have c26b0 : decide (x37_2 < (l0_3.length : Int)) = true := decide_eq_true c26
         clear c26
         by_cases c27 : x37_2 < (l1_3.length : Int)
         ·rw [if_pos c27] at H
          have c27b0 : decide (x37_2 < (l1_3.length : Int)) = true := decide_eq_true c27
          clear c27
          replace H := Option.bind_eq_some_iff.mp H
          obtain ⟨t315, A280, H⟩ := H
          replace H : (if t315 = true then (precinctlaw12_same.l0 k2 (l0_3.length : Int) (wrap64 (x37_2 + 1)) a0_0 a0_1 a0_2 l0_3 a1_0 a1_1 a1_2 l1_3) else (some false)) = some r := H
          have A28 := Aside0.mk A280
          clear A280
          by_cases c29 : t315 = true
          ·subst c29
           have H1 : (precinctlaw12_same.l0 k2 (l0_3.length : Int) (wrap64 (x37_2 + 1)) a0_0 a0_1 a0_2 l0_3 a1_0 a1_1 a1_2 l1_3) = some r := by rw [if_pos rfl] at H; exact H
           clear H
           have H := H1
           clear H1
           have H' := Aside0.mk H
           clear H
           try go_wp2
           have n0_ := Aside0.mk (blk_drew BK311.out)
           have n1_ := Aside0.mk (blk_drew BK312.out)
           have n2_ := Aside0.mk (below_drew1 HB.out)
           clear BK311
           clear BK312
           clear HB
           have BK311 := n0_
           have BK312 := n1_
           have HB := n2_
           clear n0_ n1_ n2_
           have p313 : 0 ≤ (x37_2 : Int) := of_decide_eq_true (by first | (with_reducible assumption) | assumption)
           have q313 : x37_2 < (l0_3.length : Int) := of_decide_eq_true (by first | (with_reducible assumption) | assumption)
           obtain ⟨ad313, A313_3, c313_3, e313, hx313_0, hx313_1, hx313_2, hx313_3, hl313_3, hi313_3⟩ := at_T54 HR0_3.out x37_2 p313 q313
           have hw313_3 := hx313_3
           have hw313_2 := hx313_2
           have hw313_1 := hx313_1
           have hw313_0 := hx313_0
           cases e313
           replace hx313_0 := (HB.out.cell (World.block_lt_of_cell? w _ hx313_0)).trans hx313_0
           replace hx313_1 := (HB.out.cell (World.block_lt_of_cell? w _ hx313_1)).trans hx313_1
           replace hx313_2 := (HB.out.cell (World.block_lt_of_cell? w _ hx313_2)).trans hx313_2
           replace hx313_3 := (HB.out.cell (World.block_lt_of_cell? w _ hx313_3)).trans hx313_3
           have HR313_3 := Aside0.mk hi313_3
           have HC313_3 := Aside0.mk hl313_3
           clear hi313_3 hl313_3
           replace p313 := eq_true p313
           replace q313 := eq_true q313
           have p314 : 0 ≤ (x37_2 : Int) := of_decide_eq_true (by first | (with_reducible assumption) | assumption)
           have q314 : x37_2 < (l1_3.length : Int) := of_decide_eq_true (by first | (with_reducible assumption) | assumption)
           obtain ⟨ad314, A314_3, c314_3, e314, hx314_0, hx314_1, hx314_2, hx314_3, hl314_3, hi314_3⟩ := at_T57 HR1_3.out x37_2 p314 q314
           have hw314_3 := hx314_3
           have hw314_2 := hx314_2
           have hw314_1 := hx314_1
           have hw314_0 := hx314_0
           cases e314
           replace hx314_0 := (HB.out.cell (World.block_lt_of_cell? w _ hx314_0)).trans hx314_0
           replace hx314_1 := (HB.out.cell (World.block_lt_of_cell? w _ hx314_1)).trans hx314_1
           replace hx314_2 := (HB.out.cell (World.block_lt_of_cell? w _ hx314_2)).trans hx314_2
           replace hx314_3 := (HB.out.cell (World.block_lt_of_cell? w _ hx314_3)).trans hx314_3
           have HR314_3 := Aside0.mk hi314_3
           have HC314_3 := Aside0.mk hl314_3
           clear hi314_3 hl314_3
           replace p314 := eq_true p314
           replace q314 := eq_true q314
           refine start_ (n := 12) (S := fun w' => w'.cell? ⟨gb311, 0, none⟩ = some (.int .i64 a0_0) ∧ w'.cell? ⟨gb311, 1, none⟩ = some (.int .i64 a0_1) ∧ w'.cell? ⟨gb311, 2, none⟩ = some (.string a0_2) ∧ w'.cell? ⟨gb311, 3, none⟩ = some (.slice (some ad313) l0_3.length c0_3) ∧ w'.cell? ⟨gb312, 0, none⟩ = some (.int .i64 a1_0) ∧ w'.cell? ⟨gb312, 1, none⟩ = some (.int .i64 a1_1) ∧ w'.cell? ⟨gb312, 2, none⟩ = some (.string a1_2) ∧ w'.cell? ⟨gb312, 3, none⟩ = some (.slice (some ad314) l1_3.length c1_3) ∧ w'.cell? (ad313.add ((x37_2).toNat * 4)) = some (.int .i64 ((rd_T54 l0_3 x37_2).f0)) ∧ w'.cell? ⟨(ad313.add ((x37_2).toNat * 4)).block, (ad313.add ((x37_2).toNat * 4)).off + 1, none⟩ = some (.int .i64 ((rd_T54 l0_3 x37_2).f1)) ∧ w'.cell? ⟨(ad313.add ((x37_2).toNat * 4)).block, (ad313.add ((x37_2).toNat * 4)).off + 2, none⟩ = some (.string ((rd_T54 l0_3 x37_2).f2)) ∧ w'.cell? ⟨(ad313.add ((x37_2).toNat * 4)).block, (ad313.add ((x37_2).toNat * 4)).off + 3, none⟩ = some (.slice A313_3 ((rd_T54 l0_3 x37_2).f3).length c313_3) ∧ w'.cell? (ad314.add ((x37_2).toNat * 4)) = some (.int .i64 ((rd_T57 l1_3 x37_2).f0)) ∧ w'.cell? ⟨(ad314.add ((x37_2).toNat * 4)).block, (ad314.add ((x37_2).toNat * 4)).off + 1, none⟩ = some (.int .i64 ((rd_T57 l1_3 x37_2).f1)) ∧ w'.cell? ⟨(ad314.add ((x37_2).toNat * 4)).block, (ad314.add ((x37_2).toNat * 4)).off + 2, none⟩ = some (.string ((rd_T57 l1_3 x37_2).f2)) ∧ w'.cell? ⟨(ad314.add ((x37_2).toNat * 4)).block, (ad314.add ((x37_2).toNat * 4)).off + 3, none⟩ = some (.slice A314_3 ((rd_T57 l1_3 x37_2).f3).length c314_3)) (ds := []) #[false, false, false, false, false, false, false, false, false, false, false, false] (by kernel_rfl) rfl rfl ⟨(blk_cell BK311.out 0).trans rfl, (blk_cell BK311.out 1).trans rfl, (blk_cell BK311.out 2).trans rfl, (blk_cell BK311.out 3).trans rfl, (blk_cell BK312.out 0).trans rfl, (blk_cell BK312.out 1).trans rfl, (blk_cell BK312.out 2).trans rfl, (blk_cell BK312.out 3).trans rfl, ((HB.out.cell (World.block_lt_of_cell? w _ hw313_0)).trans hw313_0), ((HB.out.cell (World.block_lt_of_cell? w _ hw313_1)).trans hw313_1), ((HB.out.cell (World.block_lt_of_cell? w _ hw313_2)).trans hw313_2), ((HB.out.cell (World.block_lt_of_cell? w _ hw313_3)).trans hw313_3), ((HB.out.cell (World.block_lt_of_cell? w _ hw314_0)).trans hw314_0), ((HB.out.cell (World.block_lt_of_cell? w _ hw314_1)).trans hw314_1), ((HB.out.cell (World.block_lt_of_cell? w _ hw314_2)).trans hw314_2), ((HB.out.cell (World.block_lt_of_cell? w _ hw314_3)).trans hw314_3)⟩ (fun hHeld => ?_); refine with_tabW precinctlaw12_same.tab6 precinctlaw12_same.bits6 (fun HT_ HW_ => ?_)
           generalize wr.drew = w30 at BK311 BK312 HB HR313_3 HR314_3 hx313_0 hx313_1 hx313_2 hx313_3 hx314_0 hx314_1 hx314_2 hx314_3 hHeld ⊢
           refine pure_ (i := 0) (N := some 40) (v := ?_) (a' := ?_) #[true, false, false, false, false, false, false, false, false, false, false, false] rfl rfl (any_of HT_.out (by kernel_rfl)) (fun _ _ _ h => h) (Or.inl ⟨by rfl, ?_⟩) ?_ ?_
           rotate_left
           ·intro w'
            go_simp
            with_reducible rfl
           rotate_left
           ·simp only [Act.put, List.setIfInBounds_toArray, List.set_cons_zero, List.set_cons_succ, i64_w, i32_w]
            rfl
           refine pure_ (i := 2) (N := some 42) (v := ?_) (a' := ?_) #[true, false, true, false, false, false, false, false, false, false, false, false] rfl rfl (any_of HT_.out (by kernel_rfl)) (fun _ _ _ h => h) (Or.inl ⟨by rfl, ?_⟩) ?_ ?_
           rotate_left
           ·intro w'
            go_simp
            with_reducible rfl
           rotate_left
           ·simp only [Act.put, List.setIfInBounds_toArray, List.set_cons_zero, List.set_cons_succ, i64_w, i32_w]
            rfl
           refine pure_ (i := 5) (N := some 45) (v := ?_) (a' := ?_) #[true, false, true, false, false, true, false, false, false, false, false, false] rfl rfl (any_of HT_.out (by kernel_rfl)) (fun _ _ _ h => h) (Or.inl ⟨by rfl, ?_⟩) ?_ ?_
           rotate_left
           ·intro w'
            go_simp
            with_reducible rfl
           rotate_left
           ·simp only [Act.put, List.setIfInBounds_toArray, List.set_cons_zero, List.set_cons_succ, i64_w, i32_w]
            rfl
           refine pure_ (i := 7) (N := some 47) (v := ?_) (a' := ?_) #[true, false, true, false, false, true, false, true, false, false, false, false] rfl rfl (any_of HT_.out (by kernel_rfl)) (fun _ _ _ h => h) (Or.inl ⟨by rfl, ?_⟩) ?_ ?_
           rotate_left
           ·intro w'
            go_simp
            with_reducible rfl
           rotate_left
           ·simp only [Act.put, List.setIfInBounds_toArray, List.set_cons_zero, List.set_cons_succ, i64_w, i32_w]
            rfl
           refine take_ (i := 1) (N := some 41) (v := ?_) (a' := ?_) #[true, true, true, false, false, true, false, true, false, false, false, false] rfl rfl (take_ofW HT_.out HW_.out (by kernel_rfl)) (fun _ _ _ h => h) (Or.inl ⟨by rfl, ?_⟩) hHeld ?_ ?_
           rotate_left
           ·rintro w' ⟨s0, s1, s2, s3, s4, s5, s6, s7, s8, s9, s10, s11, s12, s13, s14, s15⟩
            go_simp
            with_reducible rfl
           rotate_left
           ·simp only [Act.put, List.setIfInBounds_toArray, List.set_cons_zero, List.set_cons_succ, i64_w, i32_w]
            rfl
           refine pure_ (i := 3) (N := some 43) (v := ?_) (a' := ?_) #[true, true, true, true, false, true, false, true, false, false, false, false] rfl rfl (any_of HT_.out (by kernel_rfl)) (fun _ _ _ h => h) (Or.inl ⟨by rfl, ?_⟩) ?_ ?_
           rotate_left
           ·intro w'
            go_simp
            with_reducible rfl
           rotate_left
           ·simp only [Act.put, List.setIfInBounds_toArray, List.set_cons_zero, List.set_cons_succ, i64_w, i32_w]
            rfl
           refine take_ (i := 4) (N := some 44) (v := ?_) (a' := ?_) #[true, true, true, true, true, true, false, true, false, false, false, false] rfl rfl (take_ofW HT_.out HW_.out (by kernel_rfl)) (fun _ _ _ h => h) (Or.inl ⟨by rfl, ?_⟩) hHeld ?_ ?_
           rotate_left
           ·rintro w' ⟨s0, s1, s2, s3, s4, s5, s6, s7, s8, s9, s10, s11, s12, s13, s14, s15⟩
            go_simp
            with_reducible rfl
           rotate_left
           ·simp only [Act.put, List.setIfInBounds_toArray, List.set_cons_zero, List.set_cons_succ, i64_w, i32_w]
            rfl
           refine take_ (i := 6) (N := some 46) (v := ?_) (a' := ?_) #[true, true, true, true, true, true, true, true, false, false, false, false] rfl rfl (take_ofW HT_.out HW_.out (by kernel_rfl)) (fun _ _ _ h => h) (Or.inl ⟨by rfl, ?_⟩) hHeld ?_ ?_
           rotate_left
           ·rintro w' ⟨s0, s1, s2, s3, s4, s5, s6, s7, s8, s9, s10, s11, s12, s13, s14, s15⟩
            go_simp
            with_reducible rfl
           rotate_left
           ·simp only [Act.put, List.setIfInBounds_toArray, List.set_cons_zero, List.set_cons_succ, i64_w, i32_w]
            rfl
           refine pure_ (i := 8) (N := some 48) (v := ?_) (a' := ?_) #[true, true, true, true, true, true, true, true, true, false, false, false] rfl rfl (any_of HT_.out (by kernel_rfl)) (fun _ _ _ h => h) (Or.inl ⟨by rfl, ?_⟩) ?_ ?_
           rotate_left
           ·intro w'
            go_simp
            with_reducible rfl
           rotate_left
           ·simp only [Act.put, List.setIfInBounds_toArray, List.set_cons_zero, List.set_cons_succ, i64_w, i32_w]
            rfl
           refine take_ (i := 9) (N := some 49) (v := ?_) (a' := ?_) #[true, true, true, true, true, true, true, true, true, true, false, false] rfl rfl (take_ofW HT_.out HW_.out (by kernel_rfl)) (fun _ _ _ h => h) (Or.inl ⟨by rfl, ?_⟩) hHeld ?_ ?_
           rotate_left
           ·rintro w' ⟨s0, s1, s2, s3, s4, s5, s6, s7, s8, s9, s10, s11, s12, s13, s14, s15⟩
            go_simp
            with_reducible rfl
           rotate_left
           ·simp only [Act.put, List.setIfInBounds_toArray, List.set_cons_zero, List.set_cons_succ, i64_w, i32_w]
            rfl
           refine one_ (i := 10) (N := some 50) #[true, true, true, true, true, true, true, true, true, true, true, false] rfl rfl (one_of HT_.out (by kernel_rfl)) (by decide) (fun K hK => ?_)
           refine goes_ Try.func24 (by kernel_rfl) rfl #[.agg #[.int .i64 ((rd_T54 l0_3 x37_2).f0), .int .i64 ((rd_T54 l0_3 x37_2).f1), .string ((rd_T54 l0_3 x37_2).f2), .slice A313_3 ((rd_T54 l0_3 x37_2).f3).length c313_3], .agg #[.int .i64 ((rd_T57 l1_3 x37_2).f0), .int .i64 ((rd_T57 l1_3 x37_2).f1), .string ((rd_T57 l1_3 x37_2).f2), .slice A314_3 ((rd_T57 l1_3 x37_2).f3).length c314_3]] (by rfl) rfl rfl ag ?_
           with_reducible refine (ih k2 (by have := HJ2.out; have := HK2.out; omega) ((rd_T54 l0_3 x37_2).f0) ((rd_T54 l0_3 x37_2).f1) ((rd_T54 l0_3 x37_2).f2) _ _ ((rd_T54 l0_3 x37_2).f3) ((rd_T57 l1_3 x37_2).f0) ((rd_T57 l1_3 x37_2).f1) ((rd_T57 l1_3 x37_2).f2) _ _ ((rd_T57 l1_3 x37_2).f3) true _ ?side1 ?side2 ?side3 ?side4 A28.out).mono ?_
           (case side1 => repeat (first | exact (Kd.C_below HR313_3.out HB.out) | (with_reducible refine Kd.C_alloc ?_ _) | (with_reducible refine Kd.C_drewN ?_ _) | (with_reducible refine Kd.C_drew ?_)))
           (case side2 => exact HC313_3.out)
           (case side3 => repeat (first | exact (Kd.C_below HR314_3.out HB.out) | (with_reducible refine Kd.C_alloc ?_ _) | (with_reducible refine Kd.C_drewN ?_ _) | (with_reducible refine Kd.C_drew ?_)))
           (case side4 => exact HC314_3.out)
           rintro e w31 ⟨rfl, hb⟩
           refine ⟨_, rfl, ?_⟩
           have n0_ := Aside0.mk (blk_below (rb BK311.out) hb)
           have n1_ := Aside0.mk (blk_below (rb BK312.out) hb)
           have n2_ := Aside0.mk (below_step bb hb)
           clear BK311
           clear BK312
           clear HB
           have BK311 := n0_
           have BK312 := n1_
           have HB := n2_
           clear n0_ n1_ n2_
           (try clear hb)
           (try clear hb2)
           (try clear hk)
           (try clear hi)
           refine hK.out _ _ ⟨(blk_cell BK311.out 0).trans rfl, (blk_cell BK311.out 1).trans rfl, (blk_cell BK311.out 2).trans rfl, (blk_cell BK311.out 3).trans rfl, (blk_cell BK312.out 0).trans rfl, (blk_cell BK312.out 1).trans rfl, (blk_cell BK312.out 2).trans rfl, (blk_cell BK312.out 3).trans rfl, ((HB.out.cell (World.block_lt_of_cell? w _ hw313_0)).trans hw313_0), ((HB.out.cell (World.block_lt_of_cell? w _ hw313_1)).trans hw313_1), ((HB.out.cell (World.block_lt_of_cell? w _ hw313_2)).trans hw313_2), ((HB.out.cell (World.block_lt_of_cell? w _ hw313_3)).trans hw313_3), ((HB.out.cell (World.block_lt_of_cell? w _ hw314_0)).trans hw314_0), ((HB.out.cell (World.block_lt_of_cell? w _ hw314_1)).trans hw314_1), ((HB.out.cell (World.block_lt_of_cell? w _ hw314_2)).trans hw314_2), ((HB.out.cell (World.block_lt_of_cell? w _ hw314_3)).trans hw314_3)⟩ (fun hHeld => ?_)
           clear hK K
           refine norm_ (a' := ?_) ?_ ?_
           rotate_left
           ·show Act.put _ (some 50) _ = _
            simp only [Act.put, List.setIfInBounds_toArray, List.set_cons_zero, List.set_cons_succ, i64_w, i32_w]
            rfl
           refine pure_ (i := 11) (N := some 51) (v := ?_) (a' := ?_) #[true, true, true, true, true, true, true, true, true, true, true, true] rfl rfl (any_of HT_.out (by kernel_rfl)) (fun _ _ _ h => h) (Or.inl ⟨by rfl, ?_⟩) ?_ ?_
           rotate_left
           ·intro w'
            go_simp
            with_reducible rfl
           rotate_left
           ·simp only [Act.put, List.setIfInBounds_toArray, List.set_cons_zero, List.set_cons_succ, i64_w, i32_w]
            rfl
           refine done_ (done_of HT_.out (by kernel_rfl)) ?_
           try go_wp2
           go_roundg k2
           case measure => have := HJ2.out; have := HK2.out; omega
           case rel => exact ⟨(wrap64 (x37_2 + 1)), (by first | rfl | (simp; done) | (simp [*]; done)), H', ⟨by have := HJ2.out; have := HK2.out; omega⟩, ⟨by (with_reducible repeat (first | refine blk_drewN ?_ _ | refine blk_drew ?_ | refine blk_alloc ?_ _)); exact BK311.out⟩, ⟨by (with_reducible repeat (first | refine blk_drewN ?_ _ | refine blk_drew ?_ | refine blk_alloc ?_ _)); exact BK312.out⟩, ⟨bb⟩⟩
          ·replace c29 := Bool.eq_false_iff.mpr c29
           subst c29
           have H1 : (some false) = some r := by rw [if_neg (show ¬ (false = true) by decide)] at H; exact H
           clear H
           have H := H1
           clear H1
           obtain rfl := Option.some.inj H
           try go_wp2
           have n0_ := Aside0.mk (blk_drew BK311.out)
           have n1_ := Aside0.mk (blk_drew BK312.out)
           have n2_ := Aside0.mk (below_drew1 HB.out)
           clear BK311
           clear BK312
           clear HB
           have BK311 := n0_
           have BK312 := n1_
           have HB := n2_
           clear n0_ n1_ n2_
           have p313 : 0 ≤ (x37_2 : Int) := of_decide_eq_true (by first | (with_reducible assumption) | assumption)
           have q313 : x37_2 < (l0_3.length : Int) := of_decide_eq_true (by first | (with_reducible assumption) | assumption)
           obtain ⟨ad313, A313_3, c313_3, e313, hx313_0, hx313_1, hx313_2, hx313_3, hl313_3, hi313_3⟩ := at_T54 HR0_3.out x37_2 p313 q313
           have hw313_3 := hx313_3
           have hw313_2 := hx313_2
           have hw313_1 := hx313_1
           have hw313_0 := hx313_0
           cases e313
           replace hx313_0 := (HB.out.cell (World.block_lt_of_cell? w _ hx313_0)).trans hx313_0
           replace hx313_1 := (HB.out.cell (World.block_lt_of_cell? w _ hx313_1)).trans hx313_1
           replace hx313_2 := (HB.out.cell (World.block_lt_of_cell? w _ hx313_2)).trans hx313_2
           replace hx313_3 := (HB.out.cell (World.block_lt_of_cell? w _ hx313_3)).trans hx313_3
           have HR313_3 := Aside0.mk hi313_3
           have HC313_3 := Aside0.mk hl313_3
           clear hi313_3 hl313_3
           replace p313 := eq_true p313
           replace q313 := eq_true q313
           have p314 : 0 ≤ (x37_2 : Int) := of_decide_eq_true (by first | (with_reducible assumption) | assumption)
           have q314 : x37_2 < (l1_3.length : Int) := of_decide_eq_true (by first | (with_reducible assumption) | assumption)
           obtain ⟨ad314, A314_3, c314_3, e314, hx314_0, hx314_1, hx314_2, hx314_3, hl314_3, hi314_3⟩ := at_T57 HR1_3.out x37_2 p314 q314
           have hw314_3 := hx314_3
           have hw314_2 := hx314_2
           have hw314_1 := hx314_1
           have hw314_0 := hx314_0
           cases e314
           replace hx314_0 := (HB.out.cell (World.block_lt_of_cell? w _ hx314_0)).trans hx314_0
           replace hx314_1 := (HB.out.cell (World.block_lt_of_cell? w _ hx314_1)).trans hx314_1
           replace hx314_2 := (HB.out.cell (World.block_lt_of_cell? w _ hx314_2)).trans hx314_2
           replace hx314_3 := (HB.out.cell (World.block_lt_of_cell? w _ hx314_3)).trans hx314_3
           have HR314_3 := Aside0.mk hi314_3
           have HC314_3 := Aside0.mk hl314_3
           clear hi314_3 hl314_3
           replace p314 := eq_true p314
           replace q314 := eq_true q314
           refine start_ (n := 12) (S := fun w' => w'.cell? ⟨gb311, 0, none⟩ = some (.int .i64 a0_0) ∧ w'.cell? ⟨gb311, 1, none⟩ = some (.int .i64 a0_1) ∧ w'.cell? ⟨gb311, 2, none⟩ = some (.string a0_2) ∧ w'.cell? ⟨gb311, 3, none⟩ = some (.slice (some ad313) l0_3.length c0_3) ∧ w'.cell? ⟨gb312, 0, none⟩ = some (.int .i64 a1_0) ∧ w'.cell? ⟨gb312, 1, none⟩ = some (.int .i64 a1_1) ∧ w'.cell? ⟨gb312, 2, none⟩ = some (.string a1_2) ∧ w'.cell? ⟨gb312, 3, none⟩ = some (.slice (some ad314) l1_3.length c1_3) ∧ w'.cell? (ad313.add ((x37_2).toNat * 4)) = some (.int .i64 ((rd_T54 l0_3 x37_2).f0)) ∧ w'.cell? ⟨(ad313.add ((x37_2).toNat * 4)).block, (ad313.add ((x37_2).toNat * 4)).off + 1, none⟩ = some (.int .i64 ((rd_T54 l0_3 x37_2).f1)) ∧ w'.cell? ⟨(ad313.add ((x37_2).toNat * 4)).block, (ad313.add ((x37_2).toNat * 4)).off + 2, none⟩ = some (.string ((rd_T54 l0_3 x37_2).f2)) ∧ w'.cell? ⟨(ad313.add ((x37_2).toNat * 4)).block, (ad313.add ((x37_2).toNat * 4)).off + 3, none⟩ = some (.slice A313_3 ((rd_T54 l0_3 x37_2).f3).length c313_3) ∧ w'.cell? (ad314.add ((x37_2).toNat * 4)) = some (.int .i64 ((rd_T57 l1_3 x37_2).f0)) ∧ w'.cell? ⟨(ad314.add ((x37_2).toNat * 4)).block, (ad314.add ((x37_2).toNat * 4)).off + 1, none⟩ = some (.int .i64 ((rd_T57 l1_3 x37_2).f1)) ∧ w'.cell? ⟨(ad314.add ((x37_2).toNat * 4)).block, (ad314.add ((x37_2).toNat * 4)).off + 2, none⟩ = some (.string ((rd_T57 l1_3 x37_2).f2)) ∧ w'.cell? ⟨(ad314.add ((x37_2).toNat * 4)).block, (ad314.add ((x37_2).toNat * 4)).off + 3, none⟩ = some (.slice A314_3 ((rd_T57 l1_3 x37_2).f3).length c314_3)) (ds := []) #[false, false, false, false, false, false, false, false, false, false, false, false] (by kernel_rfl) rfl rfl ⟨(blk_cell BK311.out 0).trans rfl, (blk_cell BK311.out 1).trans rfl, (blk_cell BK311.out 2).trans rfl, (blk_cell BK311.out 3).trans rfl, (blk_cell BK312.out 0).trans rfl, (blk_cell BK312.out 1).trans rfl, (blk_cell BK312.out 2).trans rfl, (blk_cell BK312.out 3).trans rfl, ((HB.out.cell (World.block_lt_of_cell? w _ hw313_0)).trans hw313_0), ((HB.out.cell (World.block_lt_of_cell? w _ hw313_1)).trans hw313_1), ((HB.out.cell (World.block_lt_of_cell? w _ hw313_2)).trans hw313_2), ((HB.out.cell (World.block_lt_of_cell? w _ hw313_3)).trans hw313_3), ((HB.out.cell (World.block_lt_of_cell? w _ hw314_0)).trans hw314_0), ((HB.out.cell (World.block_lt_of_cell? w _ hw314_1)).trans hw314_1), ((HB.out.cell (World.block_lt_of_cell? w _ hw314_2)).trans hw314_2), ((HB.out.cell (World.block_lt_of_cell? w _ hw314_3)).trans hw314_3)⟩ (fun hHeld => ?_); refine with_tabW precinctlaw12_same.tab6 precinctlaw12_same.bits6 (fun HT_ HW_ => ?_)
           generalize wr.drew = w32 at BK311 BK312 HB HR313_3 HR314_3 hx313_0 hx313_1 hx313_2 hx313_3 hx314_0 hx314_1 hx314_2 hx314_3 hHeld ⊢
           refine pure_ (i := 0) (N := some 40) (v := ?_) (a' := ?_) #[true, false, false, false, false, false, false, false, false, false, false, false] rfl rfl (any_of HT_.out (by kernel_rfl)) (fun _ _ _ h => h) (Or.inl ⟨by rfl, ?_⟩) ?_ ?_
           rotate_left
           ·intro w'
            go_simp
            with_reducible rfl
           rotate_left
           ·simp only [Act.put, List.setIfInBounds_toArray, List.set_cons_zero, List.set_cons_succ, i64_w, i32_w]
            rfl
           refine pure_ (i := 2) (N := some 42) (v := ?_) (a' := ?_) #[true, false, true, false, false, false, false, false, false, false, false, false] rfl rfl (any_of HT_.out (by kernel_rfl)) (fun _ _ _ h => h) (Or.inl ⟨by rfl, ?_⟩) ?_ ?_
           rotate_left
           ·intro w'
            go_simp
            with_reducible rfl
           rotate_left
           ·simp only [Act.put, List.setIfInBounds_toArray, List.set_cons_zero, List.set_cons_succ, i64_w, i32_w]
            rfl
           refine pure_ (i := 5) (N := some 45) (v := ?_) (a' := ?_) #[true, false, true, false, false, true, false, false, false, false, false, false] rfl rfl (any_of HT_.out (by kernel_rfl)) (fun _ _ _ h => h) (Or.inl ⟨by rfl, ?_⟩) ?_ ?_
           rotate_left
           ·intro w'
            go_simp
            with_reducible rfl
           rotate_left
           ·simp only [Act.put, List.setIfInBounds_toArray, List.set_cons_zero, List.set_cons_succ, i64_w, i32_w]
            rfl
           refine pure_ (i := 7) (N := some 47) (v := ?_) (a' := ?_) #[true, false, true, false, false, true, false, true, false, false, false, false] rfl rfl (any_of HT_.out (by kernel_rfl)) (fun _ _ _ h => h) (Or.inl ⟨by rfl, ?_⟩) ?_ ?_
           rotate_left
           ·intro w'
            go_simp
            with_reducible rfl
           rotate_left
           ·simp only [Act.put, List.setIfInBounds_toArray, List.set_cons_zero, List.set_cons_succ, i64_w, i32_w]
            rfl
           refine take_ (i := 1) (N := some 41) (v := ?_) (a' := ?_) #[true, true, true, false, false, true, false, true, false, false, false, false] rfl rfl (take_ofW HT_.out HW_.out (by kernel_rfl)) (fun _ _ _ h => h) (Or.inl ⟨by rfl, ?_⟩) hHeld ?_ ?_
           rotate_left
           ·rintro w' ⟨s0, s1, s2, s3, s4, s5, s6, s7, s8, s9, s10, s11, s12, s13, s14, s15⟩
            go_simp
            with_reducible rfl
           rotate_left
           ·simp only [Act.put, List.setIfInBounds_toArray, List.set_cons_zero, List.set_cons_succ, i64_w, i32_w]
            rfl
           refine pure_ (i := 3) (N := some 43) (v := ?_) (a' := ?_) #[true, true, true, true, false, true, false, true, false, false, false, false] rfl rfl (any_of HT_.out (by kernel_rfl)) (fun _ _ _ h => h) (Or.inl ⟨by rfl, ?_⟩) ?_ ?_
           rotate_left
           ·intro w'
            go_simp
            with_reducible rfl
           rotate_left
           ·simp only [Act.put, List.setIfInBounds_toArray, List.set_cons_zero, List.set_cons_succ, i64_w, i32_w]
            rfl
           refine take_ (i := 4) (N := some 44) (v := ?_) (a' := ?_) #[true, true, true, true, true, true, false, true, false, false, false, false] rfl rfl (take_ofW HT_.out HW_.out (by kernel_rfl)) (fun _ _ _ h => h) (Or.inl ⟨by rfl, ?_⟩) hHeld ?_ ?_
           rotate_left
           ·rintro w' ⟨s0, s1, s2, s3, s4, s5, s6, s7, s8, s9, s10, s11, s12, s13, s14, s15⟩
            go_simp
            with_reducible rfl
           rotate_left
           ·simp only [Act.put, List.setIfInBounds_toArray, List.set_cons_zero, List.set_cons_succ, i64_w, i32_w]
            rfl
           refine take_ (i := 6) (N := some 46) (v := ?_) (a' := ?_) #[true, true, true, true, true, true, true, true, false, false, false, false] rfl rfl (take_ofW HT_.out HW_.out (by kernel_rfl)) (fun _ _ _ h => h) (Or.inl ⟨by rfl, ?_⟩) hHeld ?_ ?_
           rotate_left
           ·rintro w' ⟨s0, s1, s2, s3, s4, s5, s6, s7, s8, s9, s10, s11, s12, s13, s14, s15⟩
            go_simp
            with_reducible rfl
           rotate_left
           ·simp only [Act.put, List.setIfInBounds_toArray, List.set_cons_zero, List.set_cons_succ, i64_w, i32_w]
            rfl
           refine pure_ (i := 8) (N := some 48) (v := ?_) (a' := ?_) #[true, true, true, true, true, true, true, true, true, false, false, false] rfl rfl (any_of HT_.out (by kernel_rfl)) (fun _ _ _ h => h) (Or.inl ⟨by rfl, ?_⟩) ?_ ?_
           rotate_left
           ·intro w'
            go_simp
            with_reducible rfl
           rotate_left
           ·simp only [Act.put, List.setIfInBounds_toArray, List.set_cons_zero, List.set_cons_succ, i64_w, i32_w]
            rfl
           refine take_ (i := 9) (N := some 49) (v := ?_) (a' := ?_) #[true, true, true, true, true, true, true, true, true, true, false, false] rfl rfl (take_ofW HT_.out HW_.out (by kernel_rfl)) (fun _ _ _ h => h) (Or.inl ⟨by rfl, ?_⟩) hHeld ?_ ?_
           rotate_left
           ·rintro w' ⟨s0, s1, s2, s3, s4, s5, s6, s7, s8, s9, s10, s11, s12, s13, s14, s15⟩
            go_simp
            with_reducible rfl
           rotate_left
           ·simp only [Act.put, List.setIfInBounds_toArray, List.set_cons_zero, List.set_cons_succ, i64_w, i32_w]
            rfl
           refine one_ (i := 10) (N := some 50) #[true, true, true, true, true, true, true, true, true, true, true, false] rfl rfl (one_of HT_.out (by kernel_rfl)) (by decide) (fun K hK => ?_)
           refine goes_ Try.func24 (by kernel_rfl) rfl #[.agg #[.int .i64 ((rd_T54 l0_3 x37_2).f0), .int .i64 ((rd_T54 l0_3 x37_2).f1), .string ((rd_T54 l0_3 x37_2).f2), .slice A313_3 ((rd_T54 l0_3 x37_2).f3).length c313_3], .agg #[.int .i64 ((rd_T57 l1_3 x37_2).f0), .int .i64 ((rd_T57 l1_3 x37_2).f1), .string ((rd_T57 l1_3 x37_2).f2), .slice A314_3 ((rd_T57 l1_3 x37_2).f3).length c314_3]] (by rfl) rfl rfl ag ?_
           with_reducible refine (ih k2 (by have := HJ2.out; have := HK2.out; omega) ((rd_T54 l0_3 x37_2).f0) ((rd_T54 l0_3 x37_2).f1) ((rd_T54 l0_3 x37_2).f2) _ _ ((rd_T54 l0_3 x37_2).f3) ((rd_T57 l1_3 x37_2).f0) ((rd_T57 l1_3 x37_2).f1) ((rd_T57 l1_3 x37_2).f2) _ _ ((rd_T57 l1_3 x37_2).f3) false _ ?side1 ?side2 ?side3 ?side4 A28.out).mono ?_
           (case side1 => repeat (first | exact (Kd.C_below HR313_3.out HB.out) | (with_reducible refine Kd.C_alloc ?_ _) | (with_reducible refine Kd.C_drewN ?_ _) | (with_reducible refine Kd.C_drew ?_)))
           (case side2 => exact HC313_3.out)
           (case side3 => repeat (first | exact (Kd.C_below HR314_3.out HB.out) | (with_reducible refine Kd.C_alloc ?_ _) | (with_reducible refine Kd.C_drewN ?_ _) | (with_reducible refine Kd.C_drew ?_)))
           (case side4 => exact HC314_3.out)
           rintro e w33 ⟨rfl, hb⟩
           refine ⟨_, rfl, ?_⟩
           have n0_ := Aside0.mk (blk_below (rb BK311.out) hb)
           have n1_ := Aside0.mk (blk_below (rb BK312.out) hb)
           have n2_ := Aside0.mk (below_step bb hb)
           clear BK311
           clear BK312
           clear HB
           have BK311 := n0_
           have BK312 := n1_
           have HB := n2_
           clear n0_ n1_ n2_
           (try clear hb)
           (try clear hb2)
           (try clear hk)
           (try clear hi)
           refine hK.out _ _ ⟨(blk_cell BK311.out 0).trans rfl, (blk_cell BK311.out 1).trans rfl, (blk_cell BK311.out 2).trans rfl, (blk_cell BK311.out 3).trans rfl, (blk_cell BK312.out 0).trans rfl, (blk_cell BK312.out 1).trans rfl, (blk_cell BK312.out 2).trans rfl, (blk_cell BK312.out 3).trans rfl, ((HB.out.cell (World.block_lt_of_cell? w _ hw313_0)).trans hw313_0), ((HB.out.cell (World.block_lt_of_cell? w _ hw313_1)).trans hw313_1), ((HB.out.cell (World.block_lt_of_cell? w _ hw313_2)).trans hw313_2), ((HB.out.cell (World.block_lt_of_cell? w _ hw313_3)).trans hw313_3), ((HB.out.cell (World.block_lt_of_cell? w _ hw314_0)).trans hw314_0), ((HB.out.cell (World.block_lt_of_cell? w _ hw314_1)).trans hw314_1), ((HB.out.cell (World.block_lt_of_cell? w _ hw314_2)).trans hw314_2), ((HB.out.cell (World.block_lt_of_cell? w _ hw314_3)).trans hw314_3)⟩ (fun hHeld => ?_)
           clear hK K
           refine norm_ (a' := ?_) ?_ ?_
           rotate_left
           ·show Act.put _ (some 50) _ = _
            simp only [Act.put, List.setIfInBounds_toArray, List.set_cons_zero, List.set_cons_succ, i64_w, i32_w]
            rfl
           refine pure_ (i := 11) (N := some 51) (v := ?_) (a' := ?_) #[true, true, true, true, true, true, true, true, true, true, true, true] rfl rfl (any_of HT_.out (by kernel_rfl)) (fun _ _ _ h => h) (Or.inl ⟨by rfl, ?_⟩) ?_ ?_
           rotate_left
           ·intro w'
            go_simp
            with_reducible rfl
           rotate_left
           ·simp only [Act.put, List.setIfInBounds_toArray, List.set_cons_zero, List.set_cons_succ, i64_w, i32_w]
            rfl
           refine done_ (done_of HT_.out (by kernel_rfl)) ?_
           try go_wp2
           go_ret
           exact ⟨by first | rfl | (simp [errW_none, errW_some] <;> rfl) | (simp [*, errW_none, errW_some] <;> rfl), bb⟩
         ·rw [if_neg c27] at H
          exact absurd H (by simp)
        ·rw [if_neg c26] at H
         exact absurd H (by simp)
       ·rw [if_neg c25] at H
        exact absurd H (by simp)
      ·rw [if_neg c24] at H
       have c24b0 : decide (x37_2 < (l0_3.length : Int)) = false := decide_eq_false c24
       clear c24
       obtain rfl := Option.some.inj H
       go_wp2
       go_ret
       exact ⟨by first | rfl | (simp [errW_none, errW_some] <;> rfl) | (simp [*, errW_none, errW_some] <;> rfl), bb⟩

end Go.Proofs.Ytjicfkmpgogppaa.PG
