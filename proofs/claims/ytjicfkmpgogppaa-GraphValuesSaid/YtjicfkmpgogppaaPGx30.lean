-- printed by a program of this session out of the translation; see NOTES.md
import Derived.Test.YtjicfkmpgogppaaPGx0
import Derived.Test.YtjicfkmpgogppaaPGx29
import Derived.Test.YtjicfkmpgogppaaRb
namespace Go.Proofs.Ytjicfkmpgogppaa.PG
open Go.RowKit Go.Proofs.YtjicfkmpgogppaaW.PrintWords Go.Proofs.YtjicfkmpgogppaaW.PrintLast Go.Proofs.YtjicfkmpgogppaaW.PrintMore Go.Proofs.YtjicfkmpgogppaaRb
attribute [local go_sem] max2_int min2_int max_two min_two max_three min_three max_four min_four   -- for this text's walks alone
set_option linter.unusedVariables false
set_option linter.unusedSimpArgs false

/-! ### graph_Value: function 25 -/
mutual
def graph_Value.l0 : Nat → List (S54) → List (S48) → Int → Int → ByteArray → List (S48) → Option (Int × Int × ByteArray × (List (S54)))
 | 0, _, _, _, _, _, _ => none
 | k + 1, x3, x10, x11, x12, x329000, x329001 => if x12 < x11 then (if 0 ≤ x12 then (if x12 < (x10.length : Int) then (graph_Value.l1 k x3 ([] : List (S54)) x10 x11 x12 ((rd_T48 x10 x12).f1) (((rd_T48 x10 x12).f1).length : Int) 0 x329000 x329001 ((rd_T48 x10 x12).f0) ((rd_T48 x10 x12).f1) ((rd_T48 x10 x12).f2) ((rd_T48 x10 x12).f3) ((rd_T48 x10 x12).f4) ((rd_T48 x10 x12).f5)) else (none)) else (none)) else ((pack_Str.f x329000).bind fun bt330 => ((pack_All.f x3).bind fun bt336 => ((pack_All.f (([(⟨bt330.1, bt330.2.1, bt330.2.2.1, bt330.2.2.2⟩ : S54), (⟨bt336.1, bt336.2.1, bt336.2.2.1, bt336.2.2.2⟩ : S54)] : List (S54)))).bind fun bt345 => (some (bt345.1, bt345.2.1, bt345.2.2.1, bt345.2.2.2)))))
def graph_Value.l1 : Nat → List (S54) → List (S54) → List (S48) → Int → Int → List ByteArray → Int → Int → ByteArray → List (S48) → ByteArray → List ByteArray → Int → Int → Int → ByteArray → Option (Int × Int × ByteArray × (List (S54)))
 | 0, _, _, _, _, _, _, _, _, _, _, _, _, _, _, _, _ => none
 | k + 1, x3, x6, x10, x11, x12, x17, x18, x19, x329000, x329001, x353000, x353001, x353002, x353003, x353004, x353005 => if x19 < x18 then (if 0 ≤ x19 then (if x19 < (x17.length : Int) then ((pack_Str.f (rdOf ByteArray.empty x17 x19)).bind fun bt354 => (if x6.length < 2513169434916 then (graph_Value.l1 k x3 (x6 ++ [(⟨bt354.1, bt354.2.1, bt354.2.2.1, bt354.2.2.2⟩ : S54)]) x10 x11 x12 x17 x18 (wrap64 (x19 + 1)) x329000 x329001 x353000 x353001 x353002 x353003 x353004 x353005) else (none))) else (none)) else (none)) else ((pack_Str.f x353000).bind fun bt363 => ((pack_All.f x6).bind fun bt369 => ((pack_Num.f x353002).bind fun bt375 => ((pack_Num.f x353003).bind fun bt381 => ((pack_Num.f x353004).bind fun bt387 => ((pack_Str.f x353005).bind fun bt393 => ((pack_All.f (([(⟨bt363.1, bt363.2.1, bt363.2.2.1, bt363.2.2.2⟩ : S54), (⟨bt369.1, bt369.2.1, bt369.2.2.1, bt369.2.2.2⟩ : S54), (⟨bt375.1, bt375.2.1, bt375.2.2.1, bt375.2.2.2⟩ : S54), (⟨bt381.1, bt381.2.1, bt381.2.2.1, bt381.2.2.2⟩ : S54), (⟨bt387.1, bt387.2.1, bt387.2.2.1, bt387.2.2.2⟩ : S54), (⟨bt393.1, bt393.2.1, bt393.2.2.1, bt393.2.2.2⟩ : S54)] : List (S54)))).bind fun bt402 => (if x3.length < 2513169434916 then (graph_Value.l0 k (x3 ++ [(⟨bt402.1, bt402.2.1, bt402.2.2.1, bt402.2.2.2⟩ : S54)]) x10 x11 (wrap64 (x12 + 1)) x329000 x329001) else (none)))))))))
end
def graph_Value.f (k : Nat) (a0_0 : ByteArray) (l0_1 : List (S48)) : Option (Int × Int × ByteArray × (List (S54))) := graph_Value.l0 k ([] : List (S54)) l0_1 (l0_1.length : Int) 0 a0_0 l0_1
theorem graph_Value.mono_l : ∀ k, (∀ y0 y1 y2 y3 y4 y5, LeO (graph_Value.l0 k y0 y1 y2 y3 y4 y5) (graph_Value.l0 (k + 1) y0 y1 y2 y3 y4 y5)) ∧ (∀ y0 y1 y2 y3 y4 y5 y6 y7 y8 y9 y10 y11 y12 y13 y14 y15, LeO (graph_Value.l1 k y0 y1 y2 y3 y4 y5 y6 y7 y8 y9 y10 y11 y12 y13 y14 y15) (graph_Value.l1 (k + 1) y0 y1 y2 y3 y4 y5 y6 y7 y8 y9 y10 y11 y12 y13 y14 y15))
 | 0 => ⟨fun _ _ _ _ _ _ r h => by simp [graph_Value.l0] at h, fun _ _ _ _ _ _ _ _ _ _ _ _ _ _ _ _ r h => by simp [graph_Value.l1] at h⟩
 | k + 1 => by
  obtain ⟨ih0, ih1⟩ := graph_Value.mono_l k
  refine ⟨?_, ?_⟩
  ·intro y0 y1 y2 y3 y4 y5
   unfold graph_Value.l0
   repeat' first
   | (with_reducible exact ih0 _ _ _ _ _ _)
   | (with_reducible exact ih1 _ _ _ _ _ _ _ _ _ _ _ _ _ _ _ _)
   | (with_reducible exact LeO.refl _)
   | (with_reducible exact LeO.none _)
   | (with_reducible refine LeO.ite ?_ ?_)
   | (with_reducible refine LeO.bind ?_ (fun _ => ?_))
   | exact ih0 _ _ _ _ _ _
   | exact ih1 _ _ _ _ _ _ _ _ _ _ _ _ _ _ _ _
   | exact LeO.none _
   | refine LeO.ite ?_ ?_
   | refine LeO.bind ?_ (fun _ => ?_)
  ·intro y0 y1 y2 y3 y4 y5 y6 y7 y8 y9 y10 y11 y12 y13 y14 y15
   unfold graph_Value.l1
   repeat' first
   | (with_reducible exact ih0 _ _ _ _ _ _)
   | (with_reducible exact ih1 _ _ _ _ _ _ _ _ _ _ _ _ _ _ _ _)
   | (with_reducible exact LeO.refl _)
   | (with_reducible exact LeO.none _)
   | (with_reducible refine LeO.ite ?_ ?_)
   | (with_reducible refine LeO.bind ?_ (fun _ => ?_))
   | exact ih0 _ _ _ _ _ _
   | exact ih1 _ _ _ _ _ _ _ _ _ _ _ _ _ _ _ _
   | exact LeO.none _
   | refine LeO.ite ?_ ?_
   | refine LeO.bind ?_ (fun _ => ?_)
theorem graph_Value.mono : ∀ a0 a1 k, LeO (graph_Value.f k a0 a1) (graph_Value.f (k + 1) a0 a1) := by
 intro a0 a1 k
 obtain ⟨ih0, ih1⟩ := graph_Value.mono_l k
 unfold graph_Value.f
 repeat' first
   | (with_reducible exact ih0 _ _ _ _ _ _)
   | (with_reducible exact ih1 _ _ _ _ _ _ _ _ _ _ _ _ _ _ _ _)
   | (with_reducible exact LeO.refl _)
   | (with_reducible exact LeO.none _)
   | (with_reducible refine LeO.ite ?_ ?_)
   | (with_reducible refine LeO.bind ?_ (fun _ => ?_))
   | exact ih0 _ _ _ _ _ _
   | exact ih1 _ _ _ _ _ _ _ _ _ _ _ _ _ _ _ _
   | exact LeO.none _
   | refine LeO.ite ?_ ?_
   | refine LeO.bind ?_ (fun _ => ?_)
def graph_Value.T11 : Bool × List (List Nat × List Nat) := (true, [([], []), ([], []), ([1], [1]), ([2], [2]), ([], []), ([4, 3], [4]), ([], []), ([6], [6]), ([7, 5], [7]), ([], []), ([9], [9]), ([10, 8], [10]), ([], []), ([12], [12]), ([13, 11], [13]), ([], []), ([15], [15]), ([16, 14], [16]), ([3, 5, 8, 11, 14, 17], [3, 5, 8, 11, 14, 17]), ([18, 17], [18]), ([19], [19]), ([0, 20, 19], [0, 20]), ([21, 21, 0, 1, 2, 3, 4, 5, 6, 7, 8, 9, 10, 11, 12, 13, 14, 15, 16, 17, 18, 19, 20, 21], [0, 21])])
def graph_Value.B11 : List Nat := [0, 0, 2, 6, 0, 30, 0, 64, 254, 0, 512, 2046, 0, 4096, 16382, 0, 32768, 131070, 262142, 524286, 1048574, 2097151, 4194303]
theorem graph_Value.tab11 : rtab .any (opsOf Try.f25 11) = graph_Value.T11 := by kernel_rfl
theorem graph_Value.bits11 : waitsOk graph_Value.T11.2 graph_Value.B11 = true := by kernel_rfl
set_option maxHeartbeats 8000000 in
set_option maxRecDepth 100000 in
theorem graph_Value.calls (k : Nat) (a0_0 : ByteArray) (A0_1 : Option Addr) (c0_1 : Nat) (l0_1 : List (S48)) (r1 : Int) (r2 : Int) (r3 : ByteArray) (r4 : List (S54)) (w : World) (hr0_1 : Kd.C k48 w A0_1 l0_1.length l0_1) (hc0_1 : l0_1.length ≤ c0_1) (h : graph_Value.f k a0_0 l0_1 = some (r1, r2, r3, r4)) :
  Calls Try.prog 25 #[.agg #[.string a0_0, .slice A0_1 l0_1.length c0_1]] w fun e w' => ∃ v3_ : Value, e = .returned (.agg #[.int .i64 r1, .int .i64 r2, .string r3, v3_]) ∧ Kd.N k54 54 w' w.heap.size (fun k_ => (w.heap.size ≤ k_)) v3_ r4 ∧ Below w.heap.size w w' := by
 have hu27 := Try.underlying27
 have hu54 := Try.underlying54
 have hu48 := Try.underlying48
 have HR0_1 := Aside0.mk hr0_1
 have HC0_1 := Aside0.mk hc0_1
 clear hr0_1 hc0_1
 have HB := Aside0.mk (Below.refl w.heap.size w)
 have H : (graph_Value.l0 k ([] : List (S54)) l0_1 (l0_1.length : Int) 0 a0_0 l0_1) = some (r1, r2, r3, r4) := h
 clear h
 have H' := Aside0.mk H
 clear H
 go_enter Try.func25, Try.ntmps25
 go_wp2_with (first | ((with_reducible refine gate_dst (N := 1) rfl ?_); refine box_event ?hg (N := 1) ?hd (cs := #[.string a0_0, .slice A0_1 l0_1.length c0_1]) (t := 27) ?hr ?_; (case hd => rfl); (case hg => rfl); (case hr => first | (go_simp; done) | (go_simp; rfl)); intro gb328 hg w2 hbox hb; have n0_ := Aside0.mk (below_step bb hb); have n1_ := Aside0.mk (hbox); have n2_ := Aside0.mk ((by rw [hg]; exact (below_size bb) : w.heap.size ≤ gb328)); have n3_ := Aside0.mk ((by rw [hg]; exact (below_size bb) : w.heap.size ≤ gb328)); clear HB; have HB := n0_; have BK328 := n1_; have GW328 := n2_; have GE328 := n3_; clear n0_ n1_ n2_ n3_; clear hb hbox hg) | ((with_reducible refine gate_dst (N := 2) rfl ?_); refine box_event ?hg (N := 2) ?hd (cs := #[.int .i64 0, .int .i64 0, .string (⟨#[]⟩ : ByteArray), .slice none 0 0]) (t := 54) ?hr ?_; (case hd => rfl); (case hg => rfl); (case hr => first | (go_simp; done) | (go_simp; rfl)); intro gb329 hg w3 hbox hb; have n0_ := Aside0.mk (blk_below (rb BK328.out) hb); have n1_ := Aside0.mk (below_step bb hb); have n2_ := Aside0.mk (hbox); have n3_ := Aside0.mk ((by rw [hg]; exact (below_size bb) : w.heap.size ≤ gb329)); have n4_ := Aside0.mk ((by rw [hg]; exact (below_size bb) : w.heap.size ≤ gb329)); have n5_ := Aside0.mk ((by rw [hg]; exact Nat.ne_of_lt (blk_lt (rb BK328.out)) : gb328 ≠ gb329)); have n6_ := Aside0.mk ((by rw [hg]; exact Nat.ne_of_gt (blk_lt (rb BK328.out)) : gb329 ≠ gb328)); clear BK328; clear HB; have BK328 := n0_; have HB := n1_; have BK329 := n2_; have GW329 := n3_; have GE329 := n4_; have NB328_329 := n5_; have NB329_328 := n6_; clear n0_ n1_ n2_ n3_ n4_ n5_ n6_; clear hb hbox hg; have hnb4 := NB328_329.out; have hnc4 := NB329_328.out; have hcz5_0 : w3.cell? ⟨gb328, 0, none⟩ = some (.string a0_0) := (blk_cell BK328.out 0).trans rfl; have hcz5_1 : w3.cell? ⟨gb328, 1, none⟩ = some (.slice A0_1 l0_1.length c0_1) := (blk_cell BK328.out 1).trans rfl; have hfz5_0 := blk_frozen BK328.out 0; have hfz5_1 := blk_frozen BK328.out 1))
 go_loopg [3, 12] k (fun kq v3 v12 w' => ∃ (x3_1 : List (S54)) (x12_1 : Int), v12 = .int .i64 x12_1 ∧ Aside0 (graph_Value.l0 kq x3_1 l0_1 (l0_1.length : Int) x12_1 a0_0 l0_1 = some (r1, r2, r3, r4)) ∧ Aside0 (kq ≤ k) ∧ Aside0 (Kd.N k54 54 w' w.heap.size (fun k_ => (w.heap.size ≤ k_) ∧ k_ ≠ gb328 ∧ k_ ≠ gb329) v3 x3_1) ∧ Aside0 (w'.heap[gb328]? = some (.cells #[.string a0_0, (.slice A0_1 l0_1.length c0_1)] 27 (0, 0))) ∧ Aside0 (w'.heap[gb329]? = some (.cells #[.int .i64 0, .int .i64 0, .string (⟨#[]⟩ : ByteArray), (.slice none 0 0)] 54 (0, 0))) ∧ Aside0 (Below w.heap.size w w'))
 case atStart => exact ⟨(([] : List (S54))), (0), (by first | rfl | (simp; done) | (simp [*]; done)), H', ⟨Nat.le_refl _⟩, ⟨kn⟩, ⟨by (with_reducible repeat (first | refine blk_drewN ?_ _ | refine blk_drew ?_ | refine blk_alloc ?_ _)); exact BK328.out⟩, ⟨by (with_reducible repeat (first | refine blk_drewN ?_ _ | refine blk_drew ?_ | refine blk_alloc ?_ _)); exact BK329.out⟩, ⟨bb⟩⟩
 case round =>
  clear H'
  try clear c2
  try clear p2
  try clear c4
  try clear hcz5_0
  try clear hcz5_1
  try clear hfz5_0
  try clear hfz5_1
  obtain ⟨x3_1, x12_1, rfl, HA, HK1, HO_3, BK328, BK329, HB⟩ := hrel
  cases gk with
  | zero => exact absurd HA.out (by simp [graph_Value.l0])
  | succ k1 =>
   have H := HA.out
   clear HA
   simp only [graph_Value.l0] at H
   by_cases c6 : x12_1 < (l0_1.length : Int)
   ·rw [if_pos c6] at H
    have c6b0 : decide (x12_1 < (l0_1.length : Int)) = true := decide_eq_true c6
    clear c6
    by_cases c7 : 0 ≤ x12_1
    ·rw [if_pos c7] at H
     have c7b0 : decide (0 ≤ x12_1) = true := decide_eq_true c7
     clear c7
     by_cases c8 : x12_1 < (l0_1.length : Int)
     ·rw [if_pos c8] at H
      have c8b0 : decide (x12_1 < (l0_1.length : Int)) = true := decide_eq_true c8
      clear c8
      have H' := Aside0.mk H
      clear H
      have p351 : 0 ≤ (x12_1 : Int) := of_decide_eq_true (by first | (with_reducible assumption) | assumption)
      have q351 : x12_1 < (l0_1.length : Int) := of_decide_eq_true (by first | (with_reducible assumption) | assumption)
      obtain ⟨ad351, A351_1, c351_1, e351, hx351_0, hx351_1, hx351_2, hx351_3, hx351_4, hx351_5, hl351_1, hi351_1⟩ := at_T48 HR0_1.out x12_1 p351 q351
      cases e351
      replace hx351_0 := (HB.out.cell (World.block_lt_of_cell? w _ hx351_0)).trans hx351_0
      replace hx351_1 := (HB.out.cell (World.block_lt_of_cell? w _ hx351_1)).trans hx351_1
      replace hx351_2 := (HB.out.cell (World.block_lt_of_cell? w _ hx351_2)).trans hx351_2
      replace hx351_3 := (HB.out.cell (World.block_lt_of_cell? w _ hx351_3)).trans hx351_3
      replace hx351_4 := (HB.out.cell (World.block_lt_of_cell? w _ hx351_4)).trans hx351_4
      replace hx351_5 := (HB.out.cell (World.block_lt_of_cell? w _ hx351_5)).trans hx351_5
      have HR351_1 := Aside0.mk hi351_1
      have HC351_1 := Aside0.mk hl351_1
      clear hi351_1 hl351_1
      replace p351 := eq_true p351
      replace q351 := eq_true q351
      go_wp2_with (first | ((with_reducible refine gate_dst (N := 5) rfl ?_); refine box_event ?hg (N := 5) ?hd (cs := #[.string (⟨#[]⟩ : ByteArray), .slice none 0 0, .int .i64 0, .int .i64 0, .int .i64 0, .string (⟨#[]⟩ : ByteArray)]) (t := 48) ?hr ?_; (case hd => rfl); (case hg => rfl); (case hr => first | (go_simp; done) | (go_simp; rfl)); intro gb352 hg w9 hbox hb; have n0_ := Aside0.mk (Kd.N_below (Kd.N_elderB (kN HO_3.out) gb352 (Nat.le_of_eq hg.symm)) hb); have n1_ := Aside0.mk (blk_below (rb BK328.out) hb); have n2_ := Aside0.mk (blk_below (g := gb329) (o := .cells #[.int .i64 0, .int .i64 0, .string (⟨#[]⟩ : ByteArray), .slice none 0 0] 54 (0, 0)) (rb BK329.out) hb); have n3_ := Aside0.mk (below_step bb hb); have n4_ := Aside0.mk (hbox); have n5_ := Aside0.mk ((by rw [hg]; exact (below_size bb) : w.heap.size ≤ gb352)); have n6_ := Aside0.mk ((by rw [hg]; exact (below_size bb) : w.heap.size ≤ gb352)); have n7_ := Aside0.mk ((by rw [hg]; exact Nat.ne_of_lt (blk_lt (rb BK328.out)) : gb328 ≠ gb352)); have n8_ := Aside0.mk ((by rw [hg]; exact Nat.ne_of_gt (blk_lt (rb BK328.out)) : gb352 ≠ gb328)); have n9_ := Aside0.mk ((by rw [hg]; exact Nat.ne_of_lt (blk_lt (g := gb329) (o := .cells #[.int .i64 0, .int .i64 0, .string (⟨#[]⟩ : ByteArray), .slice none 0 0] 54 (0, 0)) (rb BK329.out)) : gb329 ≠ gb352)); have n10_ := Aside0.mk ((by rw [hg]; exact Nat.ne_of_gt (blk_lt (g := gb329) (o := .cells #[.int .i64 0, .int .i64 0, .string (⟨#[]⟩ : ByteArray), .slice none 0 0] 54 (0, 0)) (rb BK329.out)) : gb352 ≠ gb329)); clear HO_3; clear BK328; clear BK329; clear HB; have HO_3 := n0_; have BK328 := n1_; have BK329 := n2_; have HB := n3_; have BK352 := n4_; have GW352 := n5_; have GE352 := n6_; have NB328_352 := n7_; have NB352_328 := n8_; have NB329_352 := n9_; have NB352_329 := n10_; clear n0_ n1_ n2_ n3_ n4_ n5_ n6_ n7_ n8_ n9_ n10_; clear hb hbox hg; have hnb10 := NB352_328.out; have hnc10 := NB328_352.out; have hnb11 := NB352_329.out; have hnc11 := NB329_352.out; have hcz12_0 : w9.cell? ⟨gb352, 0, none⟩ = some (.string (⟨#[]⟩ : ByteArray)) := (blk_cell BK352.out 0).trans rfl; have hcz12_1 : w9.cell? ⟨gb352, 1, none⟩ = some (.slice none 0 0) := (blk_cell BK352.out 1).trans rfl; have hcz12_2 : w9.cell? ⟨gb352, 2, none⟩ = some (.int .i64 0) := (blk_cell BK352.out 2).trans rfl; have hcz12_3 : w9.cell? ⟨gb352, 3, none⟩ = some (.int .i64 0) := (blk_cell BK352.out 3).trans rfl; have hcz12_4 : w9.cell? ⟨gb352, 4, none⟩ = some (.int .i64 0) := (blk_cell BK352.out 4).trans rfl; have hcz12_5 : w9.cell? ⟨gb352, 5, none⟩ = some (.string (⟨#[]⟩ : ByteArray)) := (blk_cell BK352.out 5).trans rfl; have hfz12_0 := blk_frozen BK352.out 0; have hfz12_1 := blk_frozen BK352.out 1; have hfz12_2 := blk_frozen BK352.out 2; have hfz12_3 := blk_frozen BK352.out 3; have hfz12_4 := blk_frozen BK352.out 4; have hfz12_5 := blk_frozen BK352.out 5))
      go_loopg [6, 19] k1 (fun kq v6 v19 w' => ∃ (x6_2 : List (S54)) (x19_2 : Int), v19 = .int .i64 x19_2 ∧ Aside0 (graph_Value.l1 kq x3_1 x6_2 l0_1 (l0_1.length : Int) x12_1 ((rd_T48 l0_1 x12_1).f1) (((rd_T48 l0_1 x12_1).f1).length : Int) x19_2 a0_0 l0_1 ((rd_T48 l0_1 x12_1).f0) ((rd_T48 l0_1 x12_1).f1) ((rd_T48 l0_1 x12_1).f2) ((rd_T48 l0_1 x12_1).f3) ((rd_T48 l0_1 x12_1).f4) ((rd_T48 l0_1 x12_1).f5) = some (r1, r2, r3, r4)) ∧ Aside0 (kq ≤ k1) ∧ Aside0 (Kd.N k54 54 w' w.heap.size (fun k_ => (w.heap.size ≤ k_) ∧ some k_ ≠ (v6 : Value).ownBlock ∧ k_ ≠ gb328 ∧ k_ ≠ gb329 ∧ k_ ≠ gb352) u3 x3_1) ∧ Aside0 (Kd.N k54 54 w' w.heap.size (fun k_ => (w.heap.size ≤ k_) ∧ some k_ ≠ (u3 : Value).ownBlock ∧ k_ ≠ gb328 ∧ k_ ≠ gb329 ∧ k_ ≠ gb352) v6 x6_2) ∧ Aside0 (w'.heap[gb328]? = some (.cells #[.string a0_0, (.slice (some ad351) l0_1.length c0_1)] 27 (0, 0))) ∧ Aside0 (w'.heap[gb329]? = some (.cells #[.int .i64 0, .int .i64 0, .string (⟨#[]⟩ : ByteArray), (.slice none 0 0)] 54 (0, 0))) ∧ Aside0 (w'.heap[gb352]? = some (.cells #[.string ((rd_T48 l0_1 x12_1).f0), (.slice A351_1 ((rd_T48 l0_1 x12_1).f1).length c351_1), .int .i64 ((rd_T48 l0_1 x12_1).f2), .int .i64 ((rd_T48 l0_1 x12_1).f3), .int .i64 ((rd_T48 l0_1 x12_1).f4), .string ((rd_T48 l0_1 x12_1).f5)] 48 (0, 0))) ∧ Aside0 (Below w.heap.size w w'))
      case atStart => exact ⟨(([] : List (S54))), (0), (by first | rfl | (simp; done) | (simp [*]; done)), H', ⟨Nat.le_refl _⟩, ⟨kN (Kd.N_mono (Kd.N_far (p := ⟨gb352, 5, none⟩) (Kd.N_far (p := ⟨gb352, 4, none⟩) (Kd.N_far (p := ⟨gb352, 3, none⟩) (Kd.N_far (p := ⟨gb352, 2, none⟩) (Kd.N_far (p := ⟨gb352, 1, none⟩) (Kd.N_far (p := ⟨gb352, 0, none⟩) (Kd.N_mono HO_3.out (fun k_ hk => (⟨hk, hk.2⟩ : _ ∧ k_ ≠ gb352))) (fun _ hk => hk.2) (.string ((rd_T48 l0_1 x12_1).f0))) (fun _ hk => hk.2) (.slice A351_1 ((rd_T48 l0_1 x12_1).f1).length c351_1)) (fun _ hk => hk.2) (.int .i64 ((rd_T48 l0_1 x12_1).f2))) (fun _ hk => hk.2) (.int .i64 ((rd_T48 l0_1 x12_1).f3))) (fun _ hk => hk.2) (.int .i64 ((rd_T48 l0_1 x12_1).f4))) (fun _ hk => hk.2) (.string ((rd_T48 l0_1 x12_1).f5))) (fun _ hk => ⟨hk.1.1.1, ⟨(by simp [Value.ownBlock]), ⟨hk.1.1.2.1, ⟨hk.1.1.2.2, hk.1.2⟩⟩⟩⟩))⟩, ⟨kn⟩, ⟨by (with_reducible repeat (first | refine blk_drewN ?_ _ | refine blk_drew ?_ | refine blk_alloc ?_ _)); refine blk_far ?_ NB328_352.out _; (with_reducible repeat (first | refine blk_drewN ?_ _ | refine blk_drew ?_ | refine blk_alloc ?_ _)); refine blk_far ?_ NB328_352.out _; (with_reducible repeat (first | refine blk_drewN ?_ _ | refine blk_drew ?_ | refine blk_alloc ?_ _)); refine blk_far ?_ NB328_352.out _; (with_reducible repeat (first | refine blk_drewN ?_ _ | refine blk_drew ?_ | refine blk_alloc ?_ _)); refine blk_far ?_ NB328_352.out _; (with_reducible repeat (first | refine blk_drewN ?_ _ | refine blk_drew ?_ | refine blk_alloc ?_ _)); refine blk_far ?_ NB328_352.out _; (with_reducible repeat (first | refine blk_drewN ?_ _ | refine blk_drew ?_ | refine blk_alloc ?_ _)); refine blk_far ?_ NB328_352.out _; (with_reducible repeat (first | refine blk_drewN ?_ _ | refine blk_drew ?_ | refine blk_alloc ?_ _)); exact BK328.out⟩, ⟨by (with_reducible repeat (first | refine blk_drewN ?_ _ | refine blk_drew ?_ | refine blk_alloc ?_ _)); refine blk_far ?_ NB329_352.out _; (with_reducible repeat (first | refine blk_drewN ?_ _ | refine blk_drew ?_ | refine blk_alloc ?_ _)); refine blk_far ?_ NB329_352.out _; (with_reducible repeat (first | refine blk_drewN ?_ _ | refine blk_drew ?_ | refine blk_alloc ?_ _)); refine blk_far ?_ NB329_352.out _; (with_reducible repeat (first | refine blk_drewN ?_ _ | refine blk_drew ?_ | refine blk_alloc ?_ _)); refine blk_far ?_ NB329_352.out _; (with_reducible repeat (first | refine blk_drewN ?_ _ | refine blk_drew ?_ | refine blk_alloc ?_ _)); refine blk_far ?_ NB329_352.out _; (with_reducible repeat (first | refine blk_drewN ?_ _ | refine blk_drew ?_ | refine blk_alloc ?_ _)); refine blk_far ?_ NB329_352.out _; (with_reducible repeat (first | refine blk_drewN ?_ _ | refine blk_drew ?_ | refine blk_alloc ?_ _)); exact BK329.out⟩, ⟨by (with_reducible repeat (first | refine blk_drewN ?_ _ | refine blk_drew ?_ | refine blk_alloc ?_ _)); refine blk_put (cs := #[.string ((rd_T48 l0_1 x12_1).f0), .slice A351_1 ((rd_T48 l0_1 x12_1).f1).length c351_1, .int .i64 ((rd_T48 l0_1 x12_1).f2), .int .i64 ((rd_T48 l0_1 x12_1).f3), .int .i64 ((rd_T48 l0_1 x12_1).f4), .string (⟨#[]⟩ : ByteArray)]) ?_ 5 _ rfl; (with_reducible repeat (first | refine blk_drewN ?_ _ | refine blk_drew ?_ | refine blk_alloc ?_ _)); refine blk_put (cs := #[.string ((rd_T48 l0_1 x12_1).f0), .slice A351_1 ((rd_T48 l0_1 x12_1).f1).length c351_1, .int .i64 ((rd_T48 l0_1 x12_1).f2), .int .i64 ((rd_T48 l0_1 x12_1).f3), .int .i64 0, .string (⟨#[]⟩ : ByteArray)]) ?_ 4 _ rfl; (with_reducible repeat (first | refine blk_drewN ?_ _ | refine blk_drew ?_ | refine blk_alloc ?_ _)); refine blk_put (cs := #[.string ((rd_T48 l0_1 x12_1).f0), .slice A351_1 ((rd_T48 l0_1 x12_1).f1).length c351_1, .int .i64 ((rd_T48 l0_1 x12_1).f2), .int .i64 0, .int .i64 0, .string (⟨#[]⟩ : ByteArray)]) ?_ 3 _ rfl; (with_reducible repeat (first | refine blk_drewN ?_ _ | refine blk_drew ?_ | refine blk_alloc ?_ _)); refine blk_put (cs := #[.string ((rd_T48 l0_1 x12_1).f0), .slice A351_1 ((rd_T48 l0_1 x12_1).f1).length c351_1, .int .i64 0, .int .i64 0, .int .i64 0, .string (⟨#[]⟩ : ByteArray)]) ?_ 2 _ rfl; (with_reducible repeat (first | refine blk_drewN ?_ _ | refine blk_drew ?_ | refine blk_alloc ?_ _)); refine blk_put (cs := #[.string ((rd_T48 l0_1 x12_1).f0), .slice none 0 0, .int .i64 0, .int .i64 0, .int .i64 0, .string (⟨#[]⟩ : ByteArray)]) ?_ 1 _ rfl; (with_reducible repeat (first | refine blk_drewN ?_ _ | refine blk_drew ?_ | refine blk_alloc ?_ _)); refine blk_put (cs := #[.string (⟨#[]⟩ : ByteArray), .slice none 0 0, .int .i64 0, .int .i64 0, .int .i64 0, .string (⟨#[]⟩ : ByteArray)]) ?_ 0 _ rfl; (with_reducible repeat (first | refine blk_drewN ?_ _ | refine blk_drew ?_ | refine blk_alloc ?_ _)); exact BK352.out⟩, ⟨bb⟩⟩
      case round =>
       clear H'
       try clear c1
       try clear c2
       try clear p2
       try clear c3
       try clear p3
       try clear q3
       try clear hx3
       try clear c4
       try clear c6
       try clear c6b0
       try clear c7
       try clear c7b0
       try clear c8
       try clear c8b0
       try clear c10
       try clear c11
       try clear hcz12_0
       try clear hcz12_1
       try clear hcz12_2
       try clear hcz12_3
       try clear hcz12_4
       try clear hcz12_5
       try clear hcz5_0
       try clear hcz5_1
       try clear hfz12_0
       try clear hfz12_1
       try clear hfz12_2
       try clear hfz12_3
       try clear hfz12_4
       try clear hfz12_5
       try clear hfz5_0
       try clear hfz5_1
       try clear hx351_0
       try clear hx351_1
       try clear hx351_2
       try clear hx351_3
       try clear hx351_4
       try clear hx351_5
       try clear p2
       try clear p351
       try clear q351
       obtain ⟨x6_2, x19_2, rfl, HA, HK2, HO_3, HO_6, BK328, BK329, BK352, HB⟩ := hrel
       cases gk with
       | zero => exact absurd HA.out (by simp [graph_Value.l1])
       | succ k2 =>
        have H := HA.out
        clear HA
        simp only [graph_Value.l1] at H
        by_cases c13 : x19_2 < (((rd_T48 l0_1 x12_1).f1).length : Int)
        ·rw [if_pos c13] at H
         have c13b0 : decide (x19_2 < (((rd_T48 l0_1 x12_1).f1).length : Int)) = true := decide_eq_true c13
         clear c13
         by_cases c14 : 0 ≤ x19_2
         ·rw [if_pos c14] at H
          have c14b0 : decide (0 ≤ x19_2) = true := decide_eq_true c14
          clear c14
          by_cases c15 : x19_2 < (((rd_T48 l0_1 x12_1).f1).length : Int)
          ·rw [if_pos c15] at H
           have c15b0 : decide (x19_2 < (((rd_T48 l0_1 x12_1).f1).length : Int)) = true := decide_eq_true c15
           clear c15
           replace H := Option.bind_eq_some_iff.mp H
           obtain ⟨⟨t354, t355, t356, t357⟩, A160, H⟩ := H
           replace H : (if x6_2.length < 2513169434916 then (graph_Value.l1 k2 x3_1 (x6_2 ++ [(⟨t354, t355, t356, t357⟩ : S54)]) l0_1 (l0_1.length : Int) x12_1 ((rd_T48 l0_1 x12_1).f1) (((rd_T48 l0_1 x12_1).f1).length : Int) (wrap64 (x19_2 + 1)) a0_0 l0_1 ((rd_T48 l0_1 x12_1).f0) ((rd_T48 l0_1 x12_1).f1) ((rd_T48 l0_1 x12_1).f2) ((rd_T48 l0_1 x12_1).f3) ((rd_T48 l0_1 x12_1).f4) ((rd_T48 l0_1 x12_1).f5)) else (none)) = some (r1, r2, r3, r4) := H
           have A16 := Aside0.mk A160
           clear A160
           by_cases c17 : x6_2.length < 2513169434916
           ·rw [if_pos c17] at H
            have LMc17 := Aside0.mk c17
            clear c17
            obtain ⟨y360, hy360⟩ : ∃ y_ : List (S54), y_ = (x6_2 ++ [(⟨t354, t355, t356, t357⟩ : S54)]) := ⟨_, rfl⟩
            replace H : (graph_Value.l1 k2 x3_1 y360 l0_1 (l0_1.length : Int) x12_1 ((rd_T48 l0_1 x12_1).f1) (((rd_T48 l0_1 x12_1).f1).length : Int) (wrap64 (x19_2 + 1)) a0_0 l0_1 ((rd_T48 l0_1 x12_1).f0) ((rd_T48 l0_1 x12_1).f1) ((rd_T48 l0_1 x12_1).f2) ((rd_T48 l0_1 x12_1).f3) ((rd_T48 l0_1 x12_1).f4) ((rd_T48 l0_1 x12_1).f5)) = some (r1, r2, r3, r4) := by first | (rw [hy360]; with_reducible exact H) | (have H2_ := (Option.bind_some _ _).symm.trans H; rw [hy360]; with_reducible exact H2_) | (have H2_ := (Option.bind_some _ _).symm.trans H; with_reducible exact H2_) | with_reducible exact H | (rw [hy360]; exact H) | exact H
            have Ny360 := Aside0.mk hy360
            clear hy360
            have H' := Aside0.mk H
            clear H
            have p353 : 0 ≤ (x19_2 : Int) := of_decide_eq_true (by first | (with_reducible assumption) | assumption)
            have q353 : x19_2 < (((rd_T48 l0_1 x12_1).f1).length : Int) := of_decide_eq_true (by first | (with_reducible assumption) | assumption)
            obtain ⟨ad353, e353, hx353_0⟩ := Kd.at_string HR351_1.out x19_2 p353 q353
            cases e353
            replace hx353_0 := (HB.out.cell (World.block_lt_of_cell? w _ hx353_0)).trans hx353_0
            replace p353 := eq_true p353
            replace q353 := eq_true q353
            go_wp2_with (first | ((with_reducible refine gate_callee (f := 64) rfl ?_); refine goesL_ (some 25) rfl rfl Try.func64 (by kernel_rfl) rfl #[.string (rdOf ByteArray.empty ((rd_T48 l0_1 x12_1).f1) x19_2)] rfl ag ?_; (with_reducible refine (pack_Str.calls (rdOf ByteArray.empty ((rd_T48 l0_1 x12_1).f1) x19_2) t354 t355 t356 t357 _ A16.out).mono ?_); rintro e w18 ⟨v358, rfl, ho0, hb⟩; refine ⟨_, rfl, ?_⟩; have n0_ := Aside0.mk (Kd.N_elder' (kN HO_3.out) (by first | exact Kd.N_base ho0 | exact Kd.N_base (Kd.R_N ho0) | exact Kd.N_base (Kd.S_N ho0)) hb); have n1_ := Aside0.mk (Kd.N_elder' (kN HO_6.out) (by first | exact Kd.N_base ho0 | exact Kd.N_base (Kd.R_N ho0) | exact Kd.N_base (Kd.S_N ho0)) hb); have n2_ := Aside0.mk (Kd.N_lower (Kd.N_mono (ok' := fun k_ => (w.heap.size ≤ k_) ∧ some k_ ≠ (u3 : Value).ownBlock ∧ some k_ ≠ (u6 : Value).ownBlock ∧ k_ ≠ gb328 ∧ k_ ≠ gb329 ∧ k_ ≠ gb352) (Kd.R_N (Kd.R_bound ho0)) (fun k_ hk_ => ⟨(Nat.le_trans (below_size bb) hk_.2.1), (Kd.fresh' (Kd.N_lt (kN HO_3.out)) k_ hk_.2.1), (Kd.fresh' (Kd.N_lt (kN HO_6.out)) k_ hk_.2.1), (Kd.freshB (rb BK328.out) k_ hk_.2.1), (Kd.freshB (g := gb329) (o := .cells #[.int .i64 0, .int .i64 0, .string (⟨#[]⟩ : ByteArray), .slice none 0 0] 54 (0, 0)) (rb BK329.out) k_ hk_.2.1), (Kd.freshB (rb BK352.out) k_ hk_.2.1)⟩)) (below_size bb)); have n3_ := Aside0.mk (blk_below (rb BK328.out) hb); have n4_ := Aside0.mk (blk_below (g := gb329) (o := .cells #[.int .i64 0, .int .i64 0, .string (⟨#[]⟩ : ByteArray), .slice none 0 0] 54 (0, 0)) (rb BK329.out) hb); have n5_ := Aside0.mk (blk_below (rb BK352.out) hb); have n6_ := Aside0.mk (below_step bb hb); clear HO_3; clear HO_6; clear BK328; clear BK329; clear BK352; clear HB; have HO_3 := n0_; have HO_6 := n1_; have HO359 := n2_; have BK328 := n3_; have BK329 := n4_; have BK352 := n5_; have HB := n6_; clear n0_ n1_ n2_ n3_ n4_ n5_ n6_; (try clear hb); (try clear hb2); (try clear hk); (try clear hi); (try clear ho0); obtain ⟨Ao20, co20, eo20⟩ := Kd.N_slice HO359.out; subst eo20) | ((with_reducible refine gate_builtin (b := .append) (xs := #[.tmp 23, .tmp 26]) rfl ?_); at_builtin; refine Kd.N_append k54 (w0 := w) w.heap.size rfl (.tmp 23) (.tmp 26) 52 54 (.agg #[(.int .i64 0), (.int .i64 0), (.string ⟨#[]⟩), (.slice none 0 0)]) 56 rfl Try.underlying52 info54 rfl (by decide) (by omega) u6 x6_2 (⟨t354, t355, t356, t357⟩ : S54) [.int .i64 t354, .int .i64 t355, .string t356, .slice Ao20 t357.length co20] (fun k_ => (w.heap.size ≤ k_) ∧ some k_ ≠ (u3 : Value).ownBlock ∧ k_ ≠ gb328 ∧ k_ ≠ gb329 ∧ k_ ≠ gb352) (fun k_ => ((fun k_ => (w.heap.size ≤ k_) ∧ some k_ ≠ (u3 : Value).ownBlock ∧ k_ ≠ gb328 ∧ k_ ≠ gb329 ∧ k_ ≠ gb352)) k_ ∧ some k_ ≠ (u6 : Value).ownBlock) rfl rfl ?aP (fun _ hk => hk) ?aF ?aO ?aB ?aS ?aL ?_; (case aP => exact (k54_mkF _ _ (⟨t354, t355, t356, t357⟩ : S54) (Kd.N_reads' (Kd.N_mono (ok' := (fun k_ => ((fun k_ => (w.heap.size ≤ k_) ∧ some k_ ≠ (u3 : Value).ownBlock ∧ k_ ≠ gb328 ∧ k_ ≠ gb329 ∧ k_ ≠ gb352)) k_ ∧ some k_ ≠ (u6 : Value).ownBlock)) (HO359.out) (fun k_ hk => ⟨⟨hk.1, ⟨hk.2.1, ⟨hk.2.2.2.1, ⟨hk.2.2.2.2.1, hk.2.2.2.2.2⟩⟩⟩⟩, hk.2.2.1⟩))).2.1 (Kd.N_F (Kd.N_mono (ok' := (fun k_ => ((fun k_ => (w.heap.size ≤ k_) ∧ some k_ ≠ (u3 : Value).ownBlock ∧ k_ ≠ gb328 ∧ k_ ≠ gb329 ∧ k_ ≠ gb352)) k_ ∧ some k_ ≠ (u6 : Value).ownBlock)) (HO359.out) (fun k_ hk => ⟨⟨hk.1, ⟨hk.2.1, ⟨hk.2.2.2.1, ⟨hk.2.2.2.2.1, hk.2.2.2.2.2⟩⟩⟩⟩, hk.2.2.1⟩))))); (case aB => exact bb); (case aF => exact (fun k_ hk => ⟨(Nat.le_trans (below_size bb) hk), Kd.fresh' (Kd.N_lt (kN HO_3.out)) k_ hk, Kd.freshB (rb BK328.out) k_ hk, Kd.freshB (g := gb329) (o := .cells #[.int .i64 0, .int .i64 0, .string (⟨#[]⟩ : ByteArray), .slice none 0 0] 54 (0, 0)) (rb BK329.out) k_ hk, Kd.freshB (rb BK352.out) k_ hk⟩)); (case aO => exact (kN (Kd.N_mono HO_6.out (fun _ hk => ⟨hk.1.1, ⟨hk.1.2.1, ⟨hk.1.2.2.1, ⟨hk.1.2.2.2.1, hk.1.2.2.2.2⟩⟩⟩⟩)))); (case aS => exact (below_size bb)); (case aL => have := LMc17.out; omega); intro v361 w19 ho hb hg hat; rw [← Ny360.out] at ho; have n0_ := Aside0.mk (Kd.N_afterv (ok := (fun k_ => (w.heap.size ≤ k_) ∧ some k_ ≠ (.slice Ao20 t357.length co20 : Value).ownBlock ∧ k_ ≠ gb328 ∧ k_ ≠ gb329 ∧ k_ ≠ gb352)) (kN (Kd.N_mono HO_3.out (fun _ hk => ⟨⟨hk.1.1, ⟨hk.2, ⟨hk.1.2.2.1, ⟨hk.1.2.2.2.1, hk.1.2.2.2.2⟩⟩⟩⟩, hk.1.2.1⟩))) hg hat); have n1_ := Aside0.mk (blk_grown (rb BK328.out) hg (Kd.N_ne HO_6.out BK328.out (by decide))); have n2_ := Aside0.mk (blk_grown (g := gb329) (o := .cells #[.int .i64 0, .int .i64 0, .string (⟨#[]⟩ : ByteArray), .slice none 0 0] 54 (0, 0)) (rb BK329.out) hg (Kd.N_away HO_6.out (fun _ hk => hk.1.2.2.2.1))); have n3_ := Aside0.mk (blk_grown (rb BK352.out) hg (Kd.N_ne HO_6.out BK352.out (by decide))); have n4_ := Aside0.mk (hb); have n5_ := Aside0.mk (ho); clear HO_3; clear BK328; clear BK329; clear BK352; clear HB; clear HO_6; clear HO359; have HO_3 := n0_; have BK328 := n1_; have BK329 := n2_; have BK352 := n3_; have HB := n4_; have HO362 := n5_; clear n0_ n1_ n2_ n3_ n4_ n5_; clear ho hb hg hat))
            go_roundg k2
            case measure => have := HK1.out; have := HK2.out; omega
            case rel => exact ⟨(y360), (wrap64 (x19_2 + 1)), (by first | rfl | (simp; done) | (simp [*]; done)), H', ⟨by have := HK1.out; have := HK2.out; omega⟩, ⟨kN (Kd.N_mono HO_3.out (fun _ hk => ⟨hk.1.1, ⟨hk.2, ⟨hk.1.2.2.1, ⟨hk.1.2.2.2.1, hk.1.2.2.2.2⟩⟩⟩⟩))⟩, ⟨kN HO362.out⟩, ⟨by (with_reducible repeat (first | refine blk_drewN ?_ _ | refine blk_drew ?_ | refine blk_alloc ?_ _)); exact BK328.out⟩, ⟨by (with_reducible repeat (first | refine blk_drewN ?_ _ | refine blk_drew ?_ | refine blk_alloc ?_ _)); exact BK329.out⟩, ⟨by (with_reducible repeat (first | refine blk_drewN ?_ _ | refine blk_drew ?_ | refine blk_alloc ?_ _)); exact BK352.out⟩, ⟨bb⟩⟩
           ·rw [if_neg c17] at H
            exact absurd H (by simp)
          ·rw [if_neg c15] at H
           exact absurd H (by simp)
         ·rw [if_neg c14] at H
          exact absurd H (by simp)
        ·rw [if_neg c13] at H
         have c13b0 : decide (x19_2 < (((rd_T48 l0_1 x12_1).f1).length : Int)) = false := decide_eq_false c13
         clear c13
         replace H := Option.bind_eq_some_iff.mp H
         obtain ⟨⟨t363, t364, t365, t366⟩, A210, H⟩ := H
         replace H : ((pack_All.f x6_2).bind fun bt369 => ((pack_Num.f ((rd_T48 l0_1 x12_1).f2)).bind fun bt375 => ((pack_Num.f ((rd_T48 l0_1 x12_1).f3)).bind fun bt381 => ((pack_Num.f ((rd_T48 l0_1 x12_1).f4)).bind fun bt387 => ((pack_Str.f ((rd_T48 l0_1 x12_1).f5)).bind fun bt393 => ((pack_All.f (([(⟨t363, t364, t365, t366⟩ : S54), (⟨bt369.1, bt369.2.1, bt369.2.2.1, bt369.2.2.2⟩ : S54), (⟨bt375.1, bt375.2.1, bt375.2.2.1, bt375.2.2.2⟩ : S54), (⟨bt381.1, bt381.2.1, bt381.2.2.1, bt381.2.2.2⟩ : S54), (⟨bt387.1, bt387.2.1, bt387.2.2.1, bt387.2.2.2⟩ : S54), (⟨bt393.1, bt393.2.1, bt393.2.2.1, bt393.2.2.2⟩ : S54)] : List (S54)))).bind fun bt402 => (if x3_1.length < 2513169434916 then (graph_Value.l0 k2 (x3_1 ++ [(⟨bt402.1, bt402.2.1, bt402.2.2.1, bt402.2.2.2⟩ : S54)]) l0_1 (l0_1.length : Int) (wrap64 (x12_1 + 1)) a0_0 l0_1) else (none)))))))) = some (r1, r2, r3, r4) := H
         have A21 := Aside0.mk A210
         clear A210
         replace H := Option.bind_eq_some_iff.mp H
         obtain ⟨⟨t369, t370, t371, t372⟩, A220, H⟩ := H
         replace H : ((pack_Num.f ((rd_T48 l0_1 x12_1).f2)).bind fun bt375 => ((pack_Num.f ((rd_T48 l0_1 x12_1).f3)).bind fun bt381 => ((pack_Num.f ((rd_T48 l0_1 x12_1).f4)).bind fun bt387 => ((pack_Str.f ((rd_T48 l0_1 x12_1).f5)).bind fun bt393 => ((pack_All.f (([(⟨t363, t364, t365, t366⟩ : S54), (⟨t369, t370, t371, t372⟩ : S54), (⟨bt375.1, bt375.2.1, bt375.2.2.1, bt375.2.2.2⟩ : S54), (⟨bt381.1, bt381.2.1, bt381.2.2.1, bt381.2.2.2⟩ : S54), (⟨bt387.1, bt387.2.1, bt387.2.2.1, bt387.2.2.2⟩ : S54), (⟨bt393.1, bt393.2.1, bt393.2.2.1, bt393.2.2.2⟩ : S54)] : List (S54)))).bind fun bt402 => (if x3_1.length < 2513169434916 then (graph_Value.l0 k2 (x3_1 ++ [(⟨bt402.1, bt402.2.1, bt402.2.2.1, bt402.2.2.2⟩ : S54)]) l0_1 (l0_1.length : Int) (wrap64 (x12_1 + 1)) a0_0 l0_1) else (none))))))) = some (r1, r2, r3, r4) := H
         have A22 := Aside0.mk A220
         clear A220
         replace H := Option.bind_eq_some_iff.mp H
         obtain ⟨⟨t375, t376, t377, t378⟩, A230, H⟩ := H
         replace H : ((pack_Num.f ((rd_T48 l0_1 x12_1).f3)).bind fun bt381 => ((pack_Num.f ((rd_T48 l0_1 x12_1).f4)).bind fun bt387 => ((pack_Str.f ((rd_T48 l0_1 x12_1).f5)).bind fun bt393 => ((pack_All.f (([(⟨t363, t364, t365, t366⟩ : S54), (⟨t369, t370, t371, t372⟩ : S54), (⟨t375, t376, t377, t378⟩ : S54), (⟨bt381.1, bt381.2.1, bt381.2.2.1, bt381.2.2.2⟩ : S54), (⟨bt387.1, bt387.2.1, bt387.2.2.1, bt387.2.2.2⟩ : S54), (⟨bt393.1, bt393.2.1, bt393.2.2.1, bt393.2.2.2⟩ : S54)] : List (S54)))).bind fun bt402 => (if x3_1.length < 2513169434916 then (graph_Value.l0 k2 (x3_1 ++ [(⟨bt402.1, bt402.2.1, bt402.2.2.1, bt402.2.2.2⟩ : S54)]) l0_1 (l0_1.length : Int) (wrap64 (x12_1 + 1)) a0_0 l0_1) else (none)))))) = some (r1, r2, r3, r4) := H
         have A23 := Aside0.mk A230
         clear A230
         replace H := Option.bind_eq_some_iff.mp H
         obtain ⟨⟨t381, t382, t383, t384⟩, A240, H⟩ := H
         replace H : ((pack_Num.f ((rd_T48 l0_1 x12_1).f4)).bind fun bt387 => ((pack_Str.f ((rd_T48 l0_1 x12_1).f5)).bind fun bt393 => ((pack_All.f (([(⟨t363, t364, t365, t366⟩ : S54), (⟨t369, t370, t371, t372⟩ : S54), (⟨t375, t376, t377, t378⟩ : S54), (⟨t381, t382, t383, t384⟩ : S54), (⟨bt387.1, bt387.2.1, bt387.2.2.1, bt387.2.2.2⟩ : S54), (⟨bt393.1, bt393.2.1, bt393.2.2.1, bt393.2.2.2⟩ : S54)] : List (S54)))).bind fun bt402 => (if x3_1.length < 2513169434916 then (graph_Value.l0 k2 (x3_1 ++ [(⟨bt402.1, bt402.2.1, bt402.2.2.1, bt402.2.2.2⟩ : S54)]) l0_1 (l0_1.length : Int) (wrap64 (x12_1 + 1)) a0_0 l0_1) else (none))))) = some (r1, r2, r3, r4) := H
         have A24 := Aside0.mk A240
         clear A240
         replace H := Option.bind_eq_some_iff.mp H
         obtain ⟨⟨t387, t388, t389, t390⟩, A250, H⟩ := H
         replace H : ((pack_Str.f ((rd_T48 l0_1 x12_1).f5)).bind fun bt393 => ((pack_All.f (([(⟨t363, t364, t365, t366⟩ : S54), (⟨t369, t370, t371, t372⟩ : S54), (⟨t375, t376, t377, t378⟩ : S54), (⟨t381, t382, t383, t384⟩ : S54), (⟨t387, t388, t389, t390⟩ : S54), (⟨bt393.1, bt393.2.1, bt393.2.2.1, bt393.2.2.2⟩ : S54)] : List (S54)))).bind fun bt402 => (if x3_1.length < 2513169434916 then (graph_Value.l0 k2 (x3_1 ++ [(⟨bt402.1, bt402.2.1, bt402.2.2.1, bt402.2.2.2⟩ : S54)]) l0_1 (l0_1.length : Int) (wrap64 (x12_1 + 1)) a0_0 l0_1) else (none)))) = some (r1, r2, r3, r4) := H
         have A25 := Aside0.mk A250
         clear A250
         replace H := Option.bind_eq_some_iff.mp H
         obtain ⟨⟨t393, t394, t395, t396⟩, A260, H⟩ := H
         replace H : ((pack_All.f (([(⟨t363, t364, t365, t366⟩ : S54), (⟨t369, t370, t371, t372⟩ : S54), (⟨t375, t376, t377, t378⟩ : S54), (⟨t381, t382, t383, t384⟩ : S54), (⟨t387, t388, t389, t390⟩ : S54), (⟨t393, t394, t395, t396⟩ : S54)] : List (S54)))).bind fun bt402 => (if x3_1.length < 2513169434916 then (graph_Value.l0 k2 (x3_1 ++ [(⟨bt402.1, bt402.2.1, bt402.2.2.1, bt402.2.2.2⟩ : S54)]) l0_1 (l0_1.length : Int) (wrap64 (x12_1 + 1)) a0_0 l0_1) else (none))) = some (r1, r2, r3, r4) := H
         have A26 := Aside0.mk A260
         clear A260
         obtain ⟨y399, hy399⟩ : ∃ y_ : List (S54), y_ = (([(⟨t363, t364, t365, t366⟩ : S54), (⟨t369, t370, t371, t372⟩ : S54), (⟨t375, t376, t377, t378⟩ : S54), (⟨t381, t382, t383, t384⟩ : S54), (⟨t387, t388, t389, t390⟩ : S54), (⟨t393, t394, t395, t396⟩ : S54)] : List (S54))) := ⟨_, rfl⟩
         replace H : ((pack_All.f y399).bind fun bt402 => (if x3_1.length < 2513169434916 then (graph_Value.l0 k2 (x3_1 ++ [(⟨bt402.1, bt402.2.1, bt402.2.2.1, bt402.2.2.2⟩ : S54)]) l0_1 (l0_1.length : Int) (wrap64 (x12_1 + 1)) a0_0 l0_1) else (none))) = some (r1, r2, r3, r4) := by first | (rw [hy399]; with_reducible exact H) | (have H2_ := (Option.bind_some _ _).symm.trans H; rw [hy399]; with_reducible exact H2_) | (have H2_ := (Option.bind_some _ _).symm.trans H; with_reducible exact H2_) | with_reducible exact H | (rw [hy399]; exact H) | exact H
         have Ny399 := Aside0.mk hy399
         clear hy399
         replace H := Option.bind_eq_some_iff.mp H
         obtain ⟨⟨t402, t403, t404, t405⟩, A270, H⟩ := H
         replace H : (if x3_1.length < 2513169434916 then (graph_Value.l0 k2 (x3_1 ++ [(⟨t402, t403, t404, t405⟩ : S54)]) l0_1 (l0_1.length : Int) (wrap64 (x12_1 + 1)) a0_0 l0_1) else (none)) = some (r1, r2, r3, r4) := H
         have A27 := Aside0.mk A270
         clear A270
         by_cases c28 : x3_1.length < 2513169434916
         ·rw [if_pos c28] at H
          have LMc28 := Aside0.mk c28
          clear c28
          obtain ⟨y408, hy408⟩ : ∃ y_ : List (S54), y_ = (x3_1 ++ [(⟨t402, t403, t404, t405⟩ : S54)]) := ⟨_, rfl⟩
          replace H : (graph_Value.l0 k2 y408 l0_1 (l0_1.length : Int) (wrap64 (x12_1 + 1)) a0_0 l0_1) = some (r1, r2, r3, r4) := by first | (rw [hy408]; with_reducible exact H) | (have H2_ := (Option.bind_some _ _).symm.trans H; rw [hy408]; with_reducible exact H2_) | (have H2_ := (Option.bind_some _ _).symm.trans H; with_reducible exact H2_) | with_reducible exact H | (rw [hy408]; exact H) | exact H
          have Ny408 := Aside0.mk hy408
          clear hy408
          have H' := Aside0.mk H
          clear H
          try go_wp2
          have n0_ := Aside0.mk (Kd.N_drew HO_3.out)
          have n1_ := Aside0.mk (Kd.N_drew HO_6.out)
          have n2_ := Aside0.mk (blk_drew BK328.out)
          have n3_ := Aside0.mk (blk_drew BK329.out)
          have n4_ := Aside0.mk (blk_drew BK352.out)
          have n5_ := Aside0.mk (below_drew1 HB.out)
          clear HO_3
          clear HO_6
          clear BK328
          clear BK329
          clear BK352
          clear HB
          have HO_3 := n0_
          have HO_6 := n1_
          have BK328 := n2_
          have BK329 := n3_
          have BK352 := n4_
          have HB := n5_
          clear n0_ n1_ n2_ n3_ n4_ n5_
          refine start_ (n := 23) (S := fun w' => w'.cell? ⟨gb352, 0, none⟩ = some (.string ((rd_T48 l0_1 x12_1).f0)) ∧ w'.cell? ⟨gb352, 1, none⟩ = some (.slice A351_1 ((rd_T48 l0_1 x12_1).f1).length c351_1) ∧ w'.cell? ⟨gb352, 2, none⟩ = some (.int .i64 ((rd_T48 l0_1 x12_1).f2)) ∧ w'.cell? ⟨gb352, 3, none⟩ = some (.int .i64 ((rd_T48 l0_1 x12_1).f3)) ∧ w'.cell? ⟨gb352, 4, none⟩ = some (.int .i64 ((rd_T48 l0_1 x12_1).f4)) ∧ w'.cell? ⟨gb352, 5, none⟩ = some (.string ((rd_T48 l0_1 x12_1).f5))) (ds := []) #[false, false, false, false, false, false, false, false, false, false, false, false, false, false, false, false, false, false, false, false, false, false, false] (by kernel_rfl) rfl rfl ⟨(blk_cell BK352.out 0).trans rfl, (blk_cell BK352.out 1).trans rfl, (blk_cell BK352.out 2).trans rfl, (blk_cell BK352.out 3).trans rfl, (blk_cell BK352.out 4).trans rfl, (blk_cell BK352.out 5).trans rfl⟩ (fun hHeld => ?_); refine with_tabW graph_Value.tab11 graph_Value.bits11 (fun HT_ HW_ => ?_)
          generalize wr.drew = w29 at HO_3 HO_6 BK328 BK329 BK352 HB hHeld ⊢
          refine pure_ (i := 0) (N := some 29) (v := ?_) (a' := ?_) #[true, false, false, false, false, false, false, false, false, false, false, false, false, false, false, false, false, false, false, false, false, false, false] rfl rfl (any_of HT_.out (by kernel_rfl)) (fun _ _ _ h => h) (Or.inl ⟨by rfl, ?_⟩) ?_ ?_
          rotate_left
          ·intro w'
           go_simp
           with_reducible rfl
          rotate_left
          ·simp only [Act.put, List.setIfInBounds_toArray, List.set_cons_zero, List.set_cons_succ, i64_w, i32_w]
           rfl
          refine pure_ (i := 1) (N := some 30) (v := ?_) (a' := ?_) #[true, true, false, false, false, false, false, false, false, false, false, false, false, false, false, false, false, false, false, false, false, false, false] rfl rfl (any_of HT_.out (by kernel_rfl)) (fun _ _ _ h => h) (Or.inl ⟨by rfl, ?_⟩) ?_ ?_
          rotate_left
          ·intro w'
           go_simp
           with_reducible rfl
          rotate_left
          ·simp only [Act.put, List.setIfInBounds_toArray, List.set_cons_zero, List.set_cons_succ, i64_w, i32_w]
           rfl
          refine pure_ (i := 4) (N := some 33) (v := ?_) (a' := ?_) #[true, true, false, false, true, false, false, false, false, false, false, false, false, false, false, false, false, false, false, false, false, false, false] rfl rfl (any_of HT_.out (by kernel_rfl)) (fun _ _ _ h => h) (Or.inl ⟨by rfl, ?_⟩) ?_ ?_
          rotate_left
          ·intro w'
           go_simp
           with_reducible rfl
          rotate_left
          ·simp only [Act.put, List.setIfInBounds_toArray, List.set_cons_zero, List.set_cons_succ, i64_w, i32_w]
           rfl
          refine pure_ (i := 6) (N := some 35) (v := ?_) (a' := ?_) #[true, true, false, false, true, false, true, false, false, false, false, false, false, false, false, false, false, false, false, false, false, false, false] rfl rfl (any_of HT_.out (by kernel_rfl)) (fun _ _ _ h => h) (Or.inl ⟨by rfl, ?_⟩) ?_ ?_
          rotate_left
          ·intro w'
           go_simp
           with_reducible rfl
          rotate_left
          ·simp only [Act.put, List.setIfInBounds_toArray, List.set_cons_zero, List.set_cons_succ, i64_w, i32_w]
           rfl
          refine pure_ (i := 9) (N := some 38) (v := ?_) (a' := ?_) #[true, true, false, false, true, false, true, false, false, true, false, false, false, false, false, false, false, false, false, false, false, false, false] rfl rfl (any_of HT_.out (by kernel_rfl)) (fun _ _ _ h => h) (Or.inl ⟨by rfl, ?_⟩) ?_ ?_
          rotate_left
          ·intro w'
           go_simp
           with_reducible rfl
          rotate_left
          ·simp only [Act.put, List.setIfInBounds_toArray, List.set_cons_zero, List.set_cons_succ, i64_w, i32_w]
           rfl
          refine pure_ (i := 12) (N := some 41) (v := ?_) (a' := ?_) #[true, true, false, false, true, false, true, false, false, true, false, false, true, false, false, false, false, false, false, false, false, false, false] rfl rfl (any_of HT_.out (by kernel_rfl)) (fun _ _ _ h => h) (Or.inl ⟨by rfl, ?_⟩) ?_ ?_
          rotate_left
          ·intro w'
           go_simp
           with_reducible rfl
          rotate_left
          ·simp only [Act.put, List.setIfInBounds_toArray, List.set_cons_zero, List.set_cons_succ, i64_w, i32_w]
           rfl
          refine pure_ (i := 15) (N := some 44) (v := ?_) (a' := ?_) #[true, true, false, false, true, false, true, false, false, true, false, false, true, false, false, true, false, false, false, false, false, false, false] rfl rfl (any_of HT_.out (by kernel_rfl)) (fun _ _ _ h => h) (Or.inl ⟨by rfl, ?_⟩) ?_ ?_
          rotate_left
          ·intro w'
           go_simp
           with_reducible rfl
          rotate_left
          ·simp only [Act.put, List.setIfInBounds_toArray, List.set_cons_zero, List.set_cons_succ, i64_w, i32_w]
           rfl
          refine take_ (i := 2) (N := some 31) (v := ?_) (a' := ?_) #[true, true, true, false, true, false, true, false, false, true, false, false, true, false, false, true, false, false, false, false, false, false, false] rfl rfl (take_ofW HT_.out HW_.out (by kernel_rfl)) (fun _ _ _ h => h) (Or.inl ⟨by rfl, ?_⟩) hHeld ?_ ?_
          rotate_left
          ·rintro w' ⟨s0, s1, s2, s3, s4, s5⟩
           go_simp
           with_reducible rfl
          rotate_left
          ·simp only [Act.put, List.setIfInBounds_toArray, List.set_cons_zero, List.set_cons_succ, i64_w, i32_w]
           rfl
          refine take_ (i := 7) (N := some 36) (v := ?_) (a' := ?_) #[true, true, true, false, true, false, true, true, false, true, false, false, true, false, false, true, false, false, false, false, false, false, false] rfl rfl (take_ofW HT_.out HW_.out (by kernel_rfl)) (fun _ _ _ h => h) (Or.inl ⟨by rfl, ?_⟩) hHeld ?_ ?_
          rotate_left
          ·rintro w' ⟨s0, s1, s2, s3, s4, s5⟩
           go_simp
           with_reducible rfl
          rotate_left
          ·simp only [Act.put, List.setIfInBounds_toArray, List.set_cons_zero, List.set_cons_succ, i64_w, i32_w]
           rfl
          refine take_ (i := 10) (N := some 39) (v := ?_) (a' := ?_) #[true, true, true, false, true, false, true, true, false, true, true, false, true, false, false, true, false, false, false, false, false, false, false] rfl rfl (take_ofW HT_.out HW_.out (by kernel_rfl)) (fun _ _ _ h => h) (Or.inl ⟨by rfl, ?_⟩) hHeld ?_ ?_
          rotate_left
          ·rintro w' ⟨s0, s1, s2, s3, s4, s5⟩
           go_simp
           with_reducible rfl
          rotate_left
          ·simp only [Act.put, List.setIfInBounds_toArray, List.set_cons_zero, List.set_cons_succ, i64_w, i32_w]
           rfl
          refine take_ (i := 13) (N := some 42) (v := ?_) (a' := ?_) #[true, true, true, false, true, false, true, true, false, true, true, false, true, true, false, true, false, false, false, false, false, false, false] rfl rfl (take_ofW HT_.out HW_.out (by kernel_rfl)) (fun _ _ _ h => h) (Or.inl ⟨by rfl, ?_⟩) hHeld ?_ ?_
          rotate_left
          ·rintro w' ⟨s0, s1, s2, s3, s4, s5⟩
           go_simp
           with_reducible rfl
          rotate_left
          ·simp only [Act.put, List.setIfInBounds_toArray, List.set_cons_zero, List.set_cons_succ, i64_w, i32_w]
           rfl
          refine take_ (i := 16) (N := some 45) (v := ?_) (a' := ?_) #[true, true, true, false, true, false, true, true, false, true, true, false, true, true, false, true, true, false, false, false, false, false, false] rfl rfl (take_ofW HT_.out HW_.out (by kernel_rfl)) (fun _ _ _ h => h) (Or.inl ⟨by rfl, ?_⟩) hHeld ?_ ?_
          rotate_left
          ·rintro w' ⟨s0, s1, s2, s3, s4, s5⟩
           go_simp
           with_reducible rfl
          rotate_left
          ·simp only [Act.put, List.setIfInBounds_toArray, List.set_cons_zero, List.set_cons_succ, i64_w, i32_w]
           rfl
          refine one_ (i := 3) (N := some 32) #[true, true, true, true, true, false, true, true, false, true, true, false, true, true, false, true, true, false, false, false, false, false, false] rfl rfl (one_of HT_.out (by kernel_rfl)) (by decide) (fun K hK => ?_)
          refine goes_ Try.func64 (by kernel_rfl) rfl #[.string ((rd_T48 l0_1 x12_1).f0)] (by rfl) rfl rfl ag ?_
          with_reducible refine (pack_Str.calls ((rd_T48 l0_1 x12_1).f0) t363 t364 t365 t366 _ A21.out).mono ?_
          rintro e w30 ⟨v367, rfl, ho0, hb⟩
          refine ⟨_, rfl, ?_⟩
          have n0_ := Aside0.mk (Kd.N_elder' (kN HO_3.out) (by first | exact Kd.N_base ho0 | exact Kd.N_base (Kd.R_N ho0) | exact Kd.N_base (Kd.S_N ho0)) hb)
          have n1_ := Aside0.mk (Kd.N_elder' (kN HO_6.out) (by first | exact Kd.N_base ho0 | exact Kd.N_base (Kd.R_N ho0) | exact Kd.N_base (Kd.S_N ho0)) hb)
          have n2_ := Aside0.mk (Kd.N_lower (Kd.N_mono (ok' := fun k_ => (w.heap.size ≤ k_) ∧ some k_ ≠ (u3 : Value).ownBlock ∧ some k_ ≠ (u6 : Value).ownBlock ∧ k_ ≠ gb328 ∧ k_ ≠ gb329 ∧ k_ ≠ gb352) (Kd.R_N (Kd.R_bound ho0)) (fun k_ hk_ => ⟨(Nat.le_trans (below_size bb) hk_.2.1), (Kd.fresh' (Kd.N_lt (kN HO_3.out)) k_ hk_.2.1), (Kd.fresh' (Kd.N_lt (kN HO_6.out)) k_ hk_.2.1), (Kd.freshB (rb BK328.out) k_ hk_.2.1), (Kd.freshB (g := gb329) (o := .cells #[.int .i64 0, .int .i64 0, .string (⟨#[]⟩ : ByteArray), .slice none 0 0] 54 (0, 0)) (rb BK329.out) k_ hk_.2.1), (Kd.freshB (rb BK352.out) k_ hk_.2.1)⟩)) (below_size bb))
          have n3_ := Aside0.mk (blk_below (rb BK328.out) hb)
          have n4_ := Aside0.mk (blk_below (g := gb329) (o := .cells #[.int .i64 0, .int .i64 0, .string (⟨#[]⟩ : ByteArray), .slice none 0 0] 54 (0, 0)) (rb BK329.out) hb)
          have n5_ := Aside0.mk (blk_below (rb BK352.out) hb)
          have n6_ := Aside0.mk (below_step bb hb)
          clear HO_3
          clear HO_6
          clear BK328
          clear BK329
          clear BK352
          clear HB
          have HO_3 := n0_
          have HO_6 := n1_
          have HO368 := n2_
          have BK328 := n3_
          have BK329 := n4_
          have BK352 := n5_
          have HB := n6_
          clear n0_ n1_ n2_ n3_ n4_ n5_ n6_
          (try clear hb)
          (try clear hb2)
          (try clear hk)
          (try clear hi)
          (try clear ho0)
          obtain ⟨Ao31, co31, eo31⟩ := Kd.N_slice HO_6.out
          (first | subst eo31 | (injection eo31 with f1_ f2_ f3_; have f4_ := f1_.symm; have f5_ := f3_.symm; clear f1_ f2_ f3_; subst f4_; subst f5_))
          refine hK.out _ _ ⟨(blk_cell BK352.out 0).trans rfl, (blk_cell BK352.out 1).trans rfl, (blk_cell BK352.out 2).trans rfl, (blk_cell BK352.out 3).trans rfl, (blk_cell BK352.out 4).trans rfl, (blk_cell BK352.out 5).trans rfl⟩ (fun hHeld => ?_)
          clear hK K
          refine norm_ (a' := ?_) ?_ ?_
          rotate_left
          ·show Act.put _ (some 32) _ = _
           simp only [Act.put, List.setIfInBounds_toArray, List.set_cons_zero, List.set_cons_succ, i64_w, i32_w]
           rfl
          refine one_ (i := 5) (N := some 34) #[true, true, true, true, true, true, true, true, false, true, true, false, true, true, false, true, true, false, false, false, false, false, false] rfl rfl (one_of HT_.out (by kernel_rfl)) (by decide) (fun K hK => ?_)
          refine goes_ Try.func40 (by kernel_rfl) rfl #[.slice Ao31 x6_2.length co31] (by rfl) rfl rfl ag ?_
          with_reducible refine (pack_All.calls (fun k_ => (((w.heap.size ≤ k_) ∧ (some k_ ≠ (u3 : Value).ownBlock ∧ (k_ ≠ gb328 ∧ (k_ ≠ gb329 ∧ k_ ≠ gb352)))) ∧ some k_ ≠ (v367 : Value).ownBlock)) _ _ x6_2 t369 t370 t371 t372 _ ?side1 A22.out).mono ?_
          (case side1 => exact Kd.N_V (HO_6.out))
          rintro e w32 ⟨v373, rfl, ho0, hb⟩
          refine ⟨_, rfl, ?_⟩
          have n0_ := Aside0.mk (Kd.N_elder' (kN HO_3.out) (by first | exact Kd.N_base ho0 | exact Kd.N_base (Kd.R_N ho0) | exact Kd.N_base (Kd.S_N ho0)) hb)
          have n1_ := Aside0.mk (Kd.N_elder' (kN HO_6.out) (by first | exact Kd.N_base ho0 | exact Kd.N_base (Kd.R_N ho0) | exact Kd.N_base (Kd.S_N ho0)) hb)
          have n2_ := Aside0.mk (Kd.N_elder' (kN HO368.out) (by first | exact Kd.N_base ho0 | exact Kd.N_base (Kd.R_N ho0) | exact Kd.N_base (Kd.S_N ho0)) hb)
          have n3_ := Aside0.mk (Kd.N_lower (Kd.N_mono (ok' := fun k_ => (w.heap.size ≤ k_) ∧ some k_ ≠ (u3 : Value).ownBlock ∧ some k_ ≠ (v367 : Value).ownBlock ∧ k_ ≠ gb328 ∧ k_ ≠ gb329 ∧ k_ ≠ gb352) ho0 (fun k_ hk_ => ⟨Or.elim hk_ (fun hs_ => hs_.1.1) (fun hn_ => (Nat.le_trans (below_size bb) hn_)), Or.elim hk_ (fun hs_ => hs_.1.2.1) (fun hn_ => (Kd.fresh' (Kd.N_lt (kN HO_3.out)) k_ hn_)), Or.elim hk_ (fun hs_ => hs_.2) (fun hn_ => (Kd.fresh' (Kd.N_lt (kN HO368.out)) k_ hn_)), Or.elim hk_ (fun hs_ => hs_.1.2.2.1) (fun hn_ => (Kd.freshB (rb BK328.out) k_ hn_)), Or.elim hk_ (fun hs_ => hs_.1.2.2.2.1) (fun hn_ => (Kd.freshB (g := gb329) (o := .cells #[.int .i64 0, .int .i64 0, .string (⟨#[]⟩ : ByteArray), .slice none 0 0] 54 (0, 0)) (rb BK329.out) k_ hn_)), Or.elim hk_ (fun hs_ => hs_.1.2.2.2.2) (fun hn_ => (Kd.freshB (rb BK352.out) k_ hn_))⟩)) (below_size bb))
          have n4_ := Aside0.mk (blk_below (rb BK328.out) hb)
          have n5_ := Aside0.mk (blk_below (g := gb329) (o := .cells #[.int .i64 0, .int .i64 0, .string (⟨#[]⟩ : ByteArray), .slice none 0 0] 54 (0, 0)) (rb BK329.out) hb)
          have n6_ := Aside0.mk (blk_below (rb BK352.out) hb)
          have n7_ := Aside0.mk (below_step bb hb)
          clear HO_3
          clear HO_6
          clear HO368
          clear BK328
          clear BK329
          clear BK352
          clear HB
          have HO_3 := n0_
          have HO_6 := n1_
          have HO368 := n2_
          have HO374 := n3_
          have BK328 := n4_
          have BK329 := n5_
          have BK352 := n6_
          have HB := n7_
          clear n0_ n1_ n2_ n3_ n4_ n5_ n6_ n7_
          (try clear hb)
          (try clear hb2)
          (try clear hk)
          (try clear hi)
          (try clear ho0)
          refine hK.out _ _ ⟨(blk_cell BK352.out 0).trans rfl, (blk_cell BK352.out 1).trans rfl, (blk_cell BK352.out 2).trans rfl, (blk_cell BK352.out 3).trans rfl, (blk_cell BK352.out 4).trans rfl, (blk_cell BK352.out 5).trans rfl⟩ (fun hHeld => ?_)
          clear hK K
          refine norm_ (a' := ?_) ?_ ?_
          rotate_left
          ·show Act.put _ (some 34) _ = _
           simp only [Act.put, List.setIfInBounds_toArray, List.set_cons_zero, List.set_cons_succ, i64_w, i32_w]
           rfl
          refine one_ (i := 8) (N := some 37) #[true, true, true, true, true, true, true, true, true, true, true, false, true, true, false, true, true, false, false, false, false, false, false] rfl rfl (one_of HT_.out (by kernel_rfl)) (by decide) (fun K hK => ?_)
          refine goes_ Try.func48 (by kernel_rfl) rfl #[.int .i64 ((rd_T48 l0_1 x12_1).f2)] (by rfl) rfl rfl ag ?_
          with_reducible refine (pack_Num.calls ((rd_T48 l0_1 x12_1).f2) t375 t376 t377 t378 _ A23.out).mono ?_
          rintro e w33 ⟨v379, rfl, ho0, hb⟩
          refine ⟨_, rfl, ?_⟩
          have n0_ := Aside0.mk (Kd.N_elder' (kN HO_3.out) (by first | exact Kd.N_base ho0 | exact Kd.N_base (Kd.R_N ho0) | exact Kd.N_base (Kd.S_N ho0)) hb)
          have n1_ := Aside0.mk (Kd.N_elder' (kN HO_6.out) (by first | exact Kd.N_base ho0 | exact Kd.N_base (Kd.R_N ho0) | exact Kd.N_base (Kd.S_N ho0)) hb)
          have n2_ := Aside0.mk (Kd.N_elder' (kN HO368.out) (by first | exact Kd.N_base ho0 | exact Kd.N_base (Kd.R_N ho0) | exact Kd.N_base (Kd.S_N ho0)) hb)
          have n3_ := Aside0.mk (Kd.N_elder' (kN HO374.out) (by first | exact Kd.N_base ho0 | exact Kd.N_base (Kd.R_N ho0) | exact Kd.N_base (Kd.S_N ho0)) hb)
          have n4_ := Aside0.mk (Kd.N_lower (Kd.N_mono (ok' := fun k_ => (w.heap.size ≤ k_) ∧ some k_ ≠ (u3 : Value).ownBlock ∧ some k_ ≠ (.slice Ao31 x6_2.length co31 : Value).ownBlock ∧ some k_ ≠ (v367 : Value).ownBlock ∧ some k_ ≠ (v373 : Value).ownBlock ∧ k_ ≠ gb328 ∧ k_ ≠ gb329 ∧ k_ ≠ gb352) (Kd.R_N (Kd.R_bound ho0)) (fun k_ hk_ => ⟨(Nat.le_trans (below_size bb) hk_.2.1), (Kd.fresh' (Kd.N_lt (kN HO_3.out)) k_ hk_.2.1), (Kd.fresh' (Kd.N_lt (kN HO_6.out)) k_ hk_.2.1), (Kd.fresh' (Kd.N_lt (kN HO368.out)) k_ hk_.2.1), (Kd.fresh' (Kd.N_lt (kN HO374.out)) k_ hk_.2.1), (Kd.freshB (rb BK328.out) k_ hk_.2.1), (Kd.freshB (g := gb329) (o := .cells #[.int .i64 0, .int .i64 0, .string (⟨#[]⟩ : ByteArray), .slice none 0 0] 54 (0, 0)) (rb BK329.out) k_ hk_.2.1), (Kd.freshB (rb BK352.out) k_ hk_.2.1)⟩)) (below_size bb))
          have n5_ := Aside0.mk (blk_below (rb BK328.out) hb)
          have n6_ := Aside0.mk (blk_below (g := gb329) (o := .cells #[.int .i64 0, .int .i64 0, .string (⟨#[]⟩ : ByteArray), .slice none 0 0] 54 (0, 0)) (rb BK329.out) hb)
          have n7_ := Aside0.mk (blk_below (rb BK352.out) hb)
          have n8_ := Aside0.mk (below_step bb hb)
          clear HO_3
          clear HO_6
          clear HO368
          clear HO374
          clear BK328
          clear BK329
          clear BK352
          clear HB
          have HO_3 := n0_
          have HO_6 := n1_
          have HO368 := n2_
          have HO374 := n3_
          have HO380 := n4_
          have BK328 := n5_
          have BK329 := n6_
          have BK352 := n7_
          have HB := n8_
          clear n0_ n1_ n2_ n3_ n4_ n5_ n6_ n7_ n8_
          (try clear hb)
          (try clear hb2)
          (try clear hk)
          (try clear hi)
          (try clear ho0)
          refine hK.out _ _ ⟨(blk_cell BK352.out 0).trans rfl, (blk_cell BK352.out 1).trans rfl, (blk_cell BK352.out 2).trans rfl, (blk_cell BK352.out 3).trans rfl, (blk_cell BK352.out 4).trans rfl, (blk_cell BK352.out 5).trans rfl⟩ (fun hHeld => ?_)
          clear hK K
          refine norm_ (a' := ?_) ?_ ?_
          rotate_left
          ·show Act.put _ (some 37) _ = _
           simp only [Act.put, List.setIfInBounds_toArray, List.set_cons_zero, List.set_cons_succ, i64_w, i32_w]
           rfl
          refine one_ (i := 11) (N := some 40) #[true, true, true, true, true, true, true, true, true, true, true, true, true, true, false, true, true, false, false, false, false, false, false] rfl rfl (one_of HT_.out (by kernel_rfl)) (by decide) (fun K hK => ?_)
          refine goes_ Try.func48 (by kernel_rfl) rfl #[.int .i64 ((rd_T48 l0_1 x12_1).f3)] (by rfl) rfl rfl ag ?_
          with_reducible refine (pack_Num.calls ((rd_T48 l0_1 x12_1).f3) t381 t382 t383 t384 _ A24.out).mono ?_
          rintro e w34 ⟨v385, rfl, ho0, hb⟩
          refine ⟨_, rfl, ?_⟩
          have n0_ := Aside0.mk (Kd.N_elder' (kN HO_3.out) (by first | exact Kd.N_base ho0 | exact Kd.N_base (Kd.R_N ho0) | exact Kd.N_base (Kd.S_N ho0)) hb)
          have n1_ := Aside0.mk (Kd.N_elder' (kN HO_6.out) (by first | exact Kd.N_base ho0 | exact Kd.N_base (Kd.R_N ho0) | exact Kd.N_base (Kd.S_N ho0)) hb)
          have n2_ := Aside0.mk (Kd.N_elder' (kN HO368.out) (by first | exact Kd.N_base ho0 | exact Kd.N_base (Kd.R_N ho0) | exact Kd.N_base (Kd.S_N ho0)) hb)
          have n3_ := Aside0.mk (Kd.N_elder' (kN HO374.out) (by first | exact Kd.N_base ho0 | exact Kd.N_base (Kd.R_N ho0) | exact Kd.N_base (Kd.S_N ho0)) hb)
          have n4_ := Aside0.mk (Kd.N_elder' (kN HO380.out) (by first | exact Kd.N_base ho0 | exact Kd.N_base (Kd.R_N ho0) | exact Kd.N_base (Kd.S_N ho0)) hb)
          have n5_ := Aside0.mk (Kd.N_lower (Kd.N_mono (ok' := fun k_ => (w.heap.size ≤ k_) ∧ some k_ ≠ (u3 : Value).ownBlock ∧ some k_ ≠ (.slice Ao31 x6_2.length co31 : Value).ownBlock ∧ some k_ ≠ (v367 : Value).ownBlock ∧ some k_ ≠ (v373 : Value).ownBlock ∧ some k_ ≠ (v379 : Value).ownBlock ∧ k_ ≠ gb328 ∧ k_ ≠ gb329 ∧ k_ ≠ gb352) (Kd.R_N (Kd.R_bound ho0)) (fun k_ hk_ => ⟨(Nat.le_trans (below_size bb) hk_.2.1), (Kd.fresh' (Kd.N_lt (kN HO_3.out)) k_ hk_.2.1), (Kd.fresh' (Kd.N_lt (kN HO_6.out)) k_ hk_.2.1), (Kd.fresh' (Kd.N_lt (kN HO368.out)) k_ hk_.2.1), (Kd.fresh' (Kd.N_lt (kN HO374.out)) k_ hk_.2.1), (Kd.fresh' (Kd.N_lt (kN HO380.out)) k_ hk_.2.1), (Kd.freshB (rb BK328.out) k_ hk_.2.1), (Kd.freshB (g := gb329) (o := .cells #[.int .i64 0, .int .i64 0, .string (⟨#[]⟩ : ByteArray), .slice none 0 0] 54 (0, 0)) (rb BK329.out) k_ hk_.2.1), (Kd.freshB (rb BK352.out) k_ hk_.2.1)⟩)) (below_size bb))
          have n6_ := Aside0.mk (blk_below (rb BK328.out) hb)
          have n7_ := Aside0.mk (blk_below (g := gb329) (o := .cells #[.int .i64 0, .int .i64 0, .string (⟨#[]⟩ : ByteArray), .slice none 0 0] 54 (0, 0)) (rb BK329.out) hb)
          have n8_ := Aside0.mk (blk_below (rb BK352.out) hb)
          have n9_ := Aside0.mk (below_step bb hb)
          clear HO_3
          clear HO_6
          clear HO368
          clear HO374
          clear HO380
          clear BK328
          clear BK329
          clear BK352
          clear HB
          have HO_3 := n0_
          have HO_6 := n1_
          have HO368 := n2_
          have HO374 := n3_
          have HO380 := n4_
          have HO386 := n5_
          have BK328 := n6_
          have BK329 := n7_
          have BK352 := n8_
          have HB := n9_
          clear n0_ n1_ n2_ n3_ n4_ n5_ n6_ n7_ n8_ n9_
          (try clear hb)
          (try clear hb2)
          (try clear hk)
          (try clear hi)
          (try clear ho0)
          refine hK.out _ _ ⟨(blk_cell BK352.out 0).trans rfl, (blk_cell BK352.out 1).trans rfl, (blk_cell BK352.out 2).trans rfl, (blk_cell BK352.out 3).trans rfl, (blk_cell BK352.out 4).trans rfl, (blk_cell BK352.out 5).trans rfl⟩ (fun hHeld => ?_)
          clear hK K
          refine norm_ (a' := ?_) ?_ ?_
          rotate_left
          ·show Act.put _ (some 40) _ = _
           simp only [Act.put, List.setIfInBounds_toArray, List.set_cons_zero, List.set_cons_succ, i64_w, i32_w]
           rfl
          refine one_ (i := 14) (N := some 43) #[true, true, true, true, true, true, true, true, true, true, true, true, true, true, true, true, true, false, false, false, false, false, false] rfl rfl (one_of HT_.out (by kernel_rfl)) (by decide) (fun K hK => ?_)
          refine goes_ Try.func48 (by kernel_rfl) rfl #[.int .i64 ((rd_T48 l0_1 x12_1).f4)] (by rfl) rfl rfl ag ?_
          with_reducible refine (pack_Num.calls ((rd_T48 l0_1 x12_1).f4) t387 t388 t389 t390 _ A25.out).mono ?_
          rintro e w35 ⟨v391, rfl, ho0, hb⟩
          refine ⟨_, rfl, ?_⟩
          have n0_ := Aside0.mk (Kd.N_elder' (kN HO_3.out) (by first | exact Kd.N_base ho0 | exact Kd.N_base (Kd.R_N ho0) | exact Kd.N_base (Kd.S_N ho0)) hb)
          have n1_ := Aside0.mk (Kd.N_elder' (kN HO_6.out) (by first | exact Kd.N_base ho0 | exact Kd.N_base (Kd.R_N ho0) | exact Kd.N_base (Kd.S_N ho0)) hb)
          have n2_ := Aside0.mk (Kd.N_elder' (kN HO368.out) (by first | exact Kd.N_base ho0 | exact Kd.N_base (Kd.R_N ho0) | exact Kd.N_base (Kd.S_N ho0)) hb)
          have n3_ := Aside0.mk (Kd.N_elder' (kN HO374.out) (by first | exact Kd.N_base ho0 | exact Kd.N_base (Kd.R_N ho0) | exact Kd.N_base (Kd.S_N ho0)) hb)
          have n4_ := Aside0.mk (Kd.N_elder' (kN HO380.out) (by first | exact Kd.N_base ho0 | exact Kd.N_base (Kd.R_N ho0) | exact Kd.N_base (Kd.S_N ho0)) hb)
          have n5_ := Aside0.mk (Kd.N_elder' (kN HO386.out) (by first | exact Kd.N_base ho0 | exact Kd.N_base (Kd.R_N ho0) | exact Kd.N_base (Kd.S_N ho0)) hb)
          have n6_ := Aside0.mk (Kd.N_lower (Kd.N_mono (ok' := fun k_ => (w.heap.size ≤ k_) ∧ some k_ ≠ (u3 : Value).ownBlock ∧ some k_ ≠ (.slice Ao31 x6_2.length co31 : Value).ownBlock ∧ some k_ ≠ (v367 : Value).ownBlock ∧ some k_ ≠ (v373 : Value).ownBlock ∧ some k_ ≠ (v379 : Value).ownBlock ∧ some k_ ≠ (v385 : Value).ownBlock ∧ k_ ≠ gb328 ∧ k_ ≠ gb329 ∧ k_ ≠ gb352) (Kd.R_N (Kd.R_bound ho0)) (fun k_ hk_ => ⟨(Nat.le_trans (below_size bb) hk_.2.1), (Kd.fresh' (Kd.N_lt (kN HO_3.out)) k_ hk_.2.1), (Kd.fresh' (Kd.N_lt (kN HO_6.out)) k_ hk_.2.1), (Kd.fresh' (Kd.N_lt (kN HO368.out)) k_ hk_.2.1), (Kd.fresh' (Kd.N_lt (kN HO374.out)) k_ hk_.2.1), (Kd.fresh' (Kd.N_lt (kN HO380.out)) k_ hk_.2.1), (Kd.fresh' (Kd.N_lt (kN HO386.out)) k_ hk_.2.1), (Kd.freshB (rb BK328.out) k_ hk_.2.1), (Kd.freshB (g := gb329) (o := .cells #[.int .i64 0, .int .i64 0, .string (⟨#[]⟩ : ByteArray), .slice none 0 0] 54 (0, 0)) (rb BK329.out) k_ hk_.2.1), (Kd.freshB (rb BK352.out) k_ hk_.2.1)⟩)) (below_size bb))
          have n7_ := Aside0.mk (blk_below (rb BK328.out) hb)
          have n8_ := Aside0.mk (blk_below (g := gb329) (o := .cells #[.int .i64 0, .int .i64 0, .string (⟨#[]⟩ : ByteArray), .slice none 0 0] 54 (0, 0)) (rb BK329.out) hb)
          have n9_ := Aside0.mk (blk_below (rb BK352.out) hb)
          have n10_ := Aside0.mk (below_step bb hb)
          clear HO_3
          clear HO_6
          clear HO368
          clear HO374
          clear HO380
          clear HO386
          clear BK328
          clear BK329
          clear BK352
          clear HB
          have HO_3 := n0_
          have HO_6 := n1_
          have HO368 := n2_
          have HO374 := n3_
          have HO380 := n4_
          have HO386 := n5_
          have HO392 := n6_
          have BK328 := n7_
          have BK329 := n8_
          have BK352 := n9_
          have HB := n10_
          clear n0_ n1_ n2_ n3_ n4_ n5_ n6_ n7_ n8_ n9_ n10_
          (try clear hb)
          (try clear hb2)
          (try clear hk)
          (try clear hi)
          (try clear ho0)
          refine hK.out _ _ ⟨(blk_cell BK352.out 0).trans rfl, (blk_cell BK352.out 1).trans rfl, (blk_cell BK352.out 2).trans rfl, (blk_cell BK352.out 3).trans rfl, (blk_cell BK352.out 4).trans rfl, (blk_cell BK352.out 5).trans rfl⟩ (fun hHeld => ?_)
          clear hK K
          refine norm_ (a' := ?_) ?_ ?_
          rotate_left
          ·show Act.put _ (some 43) _ = _
           simp only [Act.put, List.setIfInBounds_toArray, List.set_cons_zero, List.set_cons_succ, i64_w, i32_w]
           rfl
          refine one_ (i := 17) (N := some 46) #[true, true, true, true, true, true, true, true, true, true, true, true, true, true, true, true, true, true, false, false, false, false, false] rfl rfl (one_of HT_.out (by kernel_rfl)) (by decide) (fun K hK => ?_)
          refine goes_ Try.func64 (by kernel_rfl) rfl #[.string ((rd_T48 l0_1 x12_1).f5)] (by rfl) rfl rfl ag ?_
          with_reducible refine (pack_Str.calls ((rd_T48 l0_1 x12_1).f5) t393 t394 t395 t396 _ A26.out).mono ?_
          rintro e w36 ⟨v397, rfl, ho0, hb⟩
          refine ⟨_, rfl, ?_⟩
          have n0_ := Aside0.mk (Kd.N_elder' (kN HO_3.out) (by first | exact Kd.N_base ho0 | exact Kd.N_base (Kd.R_N ho0) | exact Kd.N_base (Kd.S_N ho0)) hb)
          have n1_ := Aside0.mk (Kd.N_elder' (kN HO_6.out) (by first | exact Kd.N_base ho0 | exact Kd.N_base (Kd.R_N ho0) | exact Kd.N_base (Kd.S_N ho0)) hb)
          have n2_ := Aside0.mk (Kd.N_elder' (kN HO368.out) (by first | exact Kd.N_base ho0 | exact Kd.N_base (Kd.R_N ho0) | exact Kd.N_base (Kd.S_N ho0)) hb)
          have n3_ := Aside0.mk (Kd.N_elder' (kN HO374.out) (by first | exact Kd.N_base ho0 | exact Kd.N_base (Kd.R_N ho0) | exact Kd.N_base (Kd.S_N ho0)) hb)
          have n4_ := Aside0.mk (Kd.N_elder' (kN HO380.out) (by first | exact Kd.N_base ho0 | exact Kd.N_base (Kd.R_N ho0) | exact Kd.N_base (Kd.S_N ho0)) hb)
          have n5_ := Aside0.mk (Kd.N_elder' (kN HO386.out) (by first | exact Kd.N_base ho0 | exact Kd.N_base (Kd.R_N ho0) | exact Kd.N_base (Kd.S_N ho0)) hb)
          have n6_ := Aside0.mk (Kd.N_elder' (kN HO392.out) (by first | exact Kd.N_base ho0 | exact Kd.N_base (Kd.R_N ho0) | exact Kd.N_base (Kd.S_N ho0)) hb)
          have n7_ := Aside0.mk (Kd.N_lower (Kd.N_mono (ok' := fun k_ => (w.heap.size ≤ k_) ∧ some k_ ≠ (u3 : Value).ownBlock ∧ some k_ ≠ (.slice Ao31 x6_2.length co31 : Value).ownBlock ∧ some k_ ≠ (v367 : Value).ownBlock ∧ some k_ ≠ (v373 : Value).ownBlock ∧ some k_ ≠ (v379 : Value).ownBlock ∧ some k_ ≠ (v385 : Value).ownBlock ∧ some k_ ≠ (v391 : Value).ownBlock ∧ k_ ≠ gb328 ∧ k_ ≠ gb329 ∧ k_ ≠ gb352) (Kd.R_N (Kd.R_bound ho0)) (fun k_ hk_ => ⟨(Nat.le_trans (below_size bb) hk_.2.1), (Kd.fresh' (Kd.N_lt (kN HO_3.out)) k_ hk_.2.1), (Kd.fresh' (Kd.N_lt (kN HO_6.out)) k_ hk_.2.1), (Kd.fresh' (Kd.N_lt (kN HO368.out)) k_ hk_.2.1), (Kd.fresh' (Kd.N_lt (kN HO374.out)) k_ hk_.2.1), (Kd.fresh' (Kd.N_lt (kN HO380.out)) k_ hk_.2.1), (Kd.fresh' (Kd.N_lt (kN HO386.out)) k_ hk_.2.1), (Kd.fresh' (Kd.N_lt (kN HO392.out)) k_ hk_.2.1), (Kd.freshB (rb BK328.out) k_ hk_.2.1), (Kd.freshB (g := gb329) (o := .cells #[.int .i64 0, .int .i64 0, .string (⟨#[]⟩ : ByteArray), .slice none 0 0] 54 (0, 0)) (rb BK329.out) k_ hk_.2.1), (Kd.freshB (rb BK352.out) k_ hk_.2.1)⟩)) (below_size bb))
          have n8_ := Aside0.mk (blk_below (rb BK328.out) hb)
          have n9_ := Aside0.mk (blk_below (g := gb329) (o := .cells #[.int .i64 0, .int .i64 0, .string (⟨#[]⟩ : ByteArray), .slice none 0 0] 54 (0, 0)) (rb BK329.out) hb)
          have n10_ := Aside0.mk (blk_below (rb BK352.out) hb)
          have n11_ := Aside0.mk (below_step bb hb)
          clear HO_3
          clear HO_6
          clear HO368
          clear HO374
          clear HO380
          clear HO386
          clear HO392
          clear BK328
          clear BK329
          clear BK352
          clear HB
          have HO_3 := n0_
          have HO_6 := n1_
          have HO368 := n2_
          have HO374 := n3_
          have HO380 := n4_
          have HO386 := n5_
          have HO392 := n6_
          have HO398 := n7_
          have BK328 := n8_
          have BK329 := n9_
          have BK352 := n10_
          have HB := n11_
          clear n0_ n1_ n2_ n3_ n4_ n5_ n6_ n7_ n8_ n9_ n10_ n11_
          (try clear hb)
          (try clear hb2)
          (try clear hk)
          (try clear hi)
          (try clear ho0)
          obtain ⟨Ao37, co37, eo37⟩ := Kd.N_slice HO368.out
          (first | subst eo37 | (injection eo37 with f1_ f2_ f3_; have f4_ := f1_.symm; have f5_ := f3_.symm; clear f1_ f2_ f3_; subst f4_; subst f5_))
          obtain ⟨Ao38, co38, eo38⟩ := Kd.N_slice HO374.out
          (first | subst eo38 | (injection eo38 with f1_ f2_ f3_; have f4_ := f1_.symm; have f5_ := f3_.symm; clear f1_ f2_ f3_; subst f4_; subst f5_))
          obtain ⟨Ao39, co39, eo39⟩ := Kd.N_slice HO380.out
          (first | subst eo39 | (injection eo39 with f1_ f2_ f3_; have f4_ := f1_.symm; have f5_ := f3_.symm; clear f1_ f2_ f3_; subst f4_; subst f5_))
          obtain ⟨Ao40, co40, eo40⟩ := Kd.N_slice HO386.out
          (first | subst eo40 | (injection eo40 with f1_ f2_ f3_; have f4_ := f1_.symm; have f5_ := f3_.symm; clear f1_ f2_ f3_; subst f4_; subst f5_))
          obtain ⟨Ao41, co41, eo41⟩ := Kd.N_slice HO392.out
          (first | subst eo41 | (injection eo41 with f1_ f2_ f3_; have f4_ := f1_.symm; have f5_ := f3_.symm; clear f1_ f2_ f3_; subst f4_; subst f5_))
          obtain ⟨Ao42, co42, eo42⟩ := Kd.N_slice HO398.out
          (first | subst eo42 | (injection eo42 with f1_ f2_ f3_; have f4_ := f1_.symm; have f5_ := f3_.symm; clear f1_ f2_ f3_; subst f4_; subst f5_))
          refine hK.out _ _ ⟨(blk_cell BK352.out 0).trans rfl, (blk_cell BK352.out 1).trans rfl, (blk_cell BK352.out 2).trans rfl, (blk_cell BK352.out 3).trans rfl, (blk_cell BK352.out 4).trans rfl, (blk_cell BK352.out 5).trans rfl⟩ (fun hHeld => ?_)
          clear hK K
          refine norm_ (a' := ?_) ?_ ?_
          rotate_left
          ·show Act.put _ (some 46) _ = _
           simp only [Act.put, List.setIfInBounds_toArray, List.set_cons_zero, List.set_cons_succ, i64_w, i32_w]
           rfl
          refine one_ (i := 18) (N := some 47) #[true, true, true, true, true, true, true, true, true, true, true, true, true, true, true, true, true, true, true, false, false, false, false] rfl rfl (one_of HT_.out (by kernel_rfl)) (by decide) (fun K hK => ?_)
          refine Kd.N_lit_step k54 _ 54 ?hg (N' := 47) ?hd (xs := ([(⟨t363, t364, t365, t366⟩ : S54), (⟨t369, t370, t371, t372⟩ : S54), (⟨t375, t376, t377, t378⟩ : S54), (⟨t381, t382, t383, t384⟩ : S54), (⟨t387, t388, t389, t390⟩ : S54), (⟨t393, t394, t395, t396⟩ : S54)] : List (S54))) (inner := [.int .i64 t363, .int .i64 t364, .string t365, .slice Ao37 t366.length co37, .int .i64 t369, .int .i64 t370, .string t371, .slice Ao38 t372.length co38, .int .i64 t375, .int .i64 t376, .string t377, .slice Ao39 t378.length co39, .int .i64 t381, .int .i64 t382, .string t383, .slice Ao40 t384.length co40, .int .i64 t387, .int .i64 t388, .string t389, .slice Ao41 t390.length co41, .int .i64 t393, .int .i64 t394, .string t395, .slice Ao42 t396.length co42]) (ok := (fun k_ => (w.heap.size ≤ k_) ∧ some k_ ≠ (u3 : Value).ownBlock ∧ k_ ≠ gb328 ∧ k_ ≠ gb329 ∧ k_ ≠ gb352)) (okp := (fun k_ => (w.heap.size ≤ k_) ∧ some k_ ≠ (u3 : Value).ownBlock ∧ k_ ≠ gb328 ∧ k_ ≠ gb329 ∧ k_ ≠ gb352)) ?hr ?hp (fun _ hk => hk) ((show ∀ k_, w36.heap.size ≤ k_ → (fun k_ => (w.heap.size ≤ k_) ∧ some k_ ≠ (u3 : Value).ownBlock ∧ k_ ≠ gb328 ∧ k_ ≠ gb329 ∧ k_ ≠ gb352) k_ from fun k_ hk => ⟨(Nat.le_trans (below_size bb) hk), Kd.fresh' (Kd.N_lt (kN HO_3.out)) k_ hk, Kd.freshB (rb BK328.out) k_ hk, Kd.freshB (g := gb329) (o := .cells #[.int .i64 0, .int .i64 0, .string (⟨#[]⟩ : ByteArray), .slice none 0 0] 54 (0, 0)) (rb BK329.out) k_ hk, Kd.freshB (rb BK352.out) k_ hk⟩) _ (Nat.le_refl _)) (Below.refl _ _) (Nat.le_refl _) (by simp) ?_; (case hd => rfl); (case hg => rfl); (case hr => first | (go_simp; done) | (go_simp; rfl)); (case hp => exact (Reps.c4 (show Kd.FK k54 _ _ (⟨t363, t364, t365, t366⟩ : S54) [.int .i64 t363, .int .i64 t364, .string t365, .slice Ao37 t366.length co37] from (k54_mkF _ _ (⟨t363, t364, t365, t366⟩ : S54) (Kd.N_reads' (Kd.N_mono (ok' := (fun k_ => (w.heap.size ≤ k_) ∧ some k_ ≠ (u3 : Value).ownBlock ∧ k_ ≠ gb328 ∧ k_ ≠ gb329 ∧ k_ ≠ gb352)) (HO368.out) (fun k_ hk => ⟨hk.1.1.1.1.1.1, ⟨hk.1.1.1.1.1.2.1, ⟨hk.1.1.1.1.1.2.2.2.1, ⟨hk.1.1.1.1.1.2.2.2.2.1, hk.1.1.1.1.1.2.2.2.2.2⟩⟩⟩⟩))).2.1 (Kd.N_F (Kd.N_mono (ok' := (fun k_ => (w.heap.size ≤ k_) ∧ some k_ ≠ (u3 : Value).ownBlock ∧ k_ ≠ gb328 ∧ k_ ≠ gb329 ∧ k_ ≠ gb352)) (HO368.out) (fun k_ hk => ⟨hk.1.1.1.1.1.1, ⟨hk.1.1.1.1.1.2.1, ⟨hk.1.1.1.1.1.2.2.2.1, ⟨hk.1.1.1.1.1.2.2.2.2.1, hk.1.1.1.1.1.2.2.2.2.2⟩⟩⟩⟩))))) (Reps.c4 (show Kd.FK k54 _ _ (⟨t369, t370, t371, t372⟩ : S54) [.int .i64 t369, .int .i64 t370, .string t371, .slice Ao38 t372.length co38] from (k54_mkF _ _ (⟨t369, t370, t371, t372⟩ : S54) (Kd.N_reads' (Kd.N_mono (ok' := (fun k_ => (w.heap.size ≤ k_) ∧ some k_ ≠ (u3 : Value).ownBlock ∧ k_ ≠ gb328 ∧ k_ ≠ gb329 ∧ k_ ≠ gb352)) (HO374.out) (fun k_ hk => ⟨hk.1.1.1.1.1, ⟨hk.1.1.1.1.2.1, ⟨hk.1.1.1.1.2.2.2.1, ⟨hk.1.1.1.1.2.2.2.2.1, hk.1.1.1.1.2.2.2.2.2⟩⟩⟩⟩))).2.1 (Kd.N_F (Kd.N_mono (ok' := (fun k_ => (w.heap.size ≤ k_) ∧ some k_ ≠ (u3 : Value).ownBlock ∧ k_ ≠ gb328 ∧ k_ ≠ gb329 ∧ k_ ≠ gb352)) (HO374.out) (fun k_ hk => ⟨hk.1.1.1.1.1, ⟨hk.1.1.1.1.2.1, ⟨hk.1.1.1.1.2.2.2.1, ⟨hk.1.1.1.1.2.2.2.2.1, hk.1.1.1.1.2.2.2.2.2⟩⟩⟩⟩))))) (Reps.c4 (show Kd.FK k54 _ _ (⟨t375, t376, t377, t378⟩ : S54) [.int .i64 t375, .int .i64 t376, .string t377, .slice Ao39 t378.length co39] from (k54_mkF _ _ (⟨t375, t376, t377, t378⟩ : S54) (Kd.N_reads' (Kd.N_mono (ok' := (fun k_ => (w.heap.size ≤ k_) ∧ some k_ ≠ (u3 : Value).ownBlock ∧ k_ ≠ gb328 ∧ k_ ≠ gb329 ∧ k_ ≠ gb352)) (HO380.out) (fun k_ hk => ⟨hk.1.1.1.1, ⟨hk.1.1.1.2.1, ⟨hk.1.1.1.2.2.2.2.2.1, ⟨hk.1.1.1.2.2.2.2.2.2.1, hk.1.1.1.2.2.2.2.2.2.2⟩⟩⟩⟩))).2.1 (Kd.N_F (Kd.N_mono (ok' := (fun k_ => (w.heap.size ≤ k_) ∧ some k_ ≠ (u3 : Value).ownBlock ∧ k_ ≠ gb328 ∧ k_ ≠ gb329 ∧ k_ ≠ gb352)) (HO380.out) (fun k_ hk => ⟨hk.1.1.1.1, ⟨hk.1.1.1.2.1, ⟨hk.1.1.1.2.2.2.2.2.1, ⟨hk.1.1.1.2.2.2.2.2.2.1, hk.1.1.1.2.2.2.2.2.2.2⟩⟩⟩⟩))))) (Reps.c4 (show Kd.FK k54 _ _ (⟨t381, t382, t383, t384⟩ : S54) [.int .i64 t381, .int .i64 t382, .string t383, .slice Ao40 t384.length co40] from (k54_mkF _ _ (⟨t381, t382, t383, t384⟩ : S54) (Kd.N_reads' (Kd.N_mono (ok' := (fun k_ => (w.heap.size ≤ k_) ∧ some k_ ≠ (u3 : Value).ownBlock ∧ k_ ≠ gb328 ∧ k_ ≠ gb329 ∧ k_ ≠ gb352)) (HO386.out) (fun k_ hk => ⟨hk.1.1.1, ⟨hk.1.1.2.1, ⟨hk.1.1.2.2.2.2.2.2.1, ⟨hk.1.1.2.2.2.2.2.2.2.1, hk.1.1.2.2.2.2.2.2.2.2⟩⟩⟩⟩))).2.1 (Kd.N_F (Kd.N_mono (ok' := (fun k_ => (w.heap.size ≤ k_) ∧ some k_ ≠ (u3 : Value).ownBlock ∧ k_ ≠ gb328 ∧ k_ ≠ gb329 ∧ k_ ≠ gb352)) (HO386.out) (fun k_ hk => ⟨hk.1.1.1, ⟨hk.1.1.2.1, ⟨hk.1.1.2.2.2.2.2.2.1, ⟨hk.1.1.2.2.2.2.2.2.2.1, hk.1.1.2.2.2.2.2.2.2.2⟩⟩⟩⟩))))) (Reps.c4 (show Kd.FK k54 _ _ (⟨t387, t388, t389, t390⟩ : S54) [.int .i64 t387, .int .i64 t388, .string t389, .slice Ao41 t390.length co41] from (k54_mkF _ _ (⟨t387, t388, t389, t390⟩ : S54) (Kd.N_reads' (Kd.N_mono (ok' := (fun k_ => (w.heap.size ≤ k_) ∧ some k_ ≠ (u3 : Value).ownBlock ∧ k_ ≠ gb328 ∧ k_ ≠ gb329 ∧ k_ ≠ gb352)) (HO392.out) (fun k_ hk => ⟨hk.1.1, ⟨hk.1.2.1, ⟨hk.1.2.2.2.2.2.2.2.1, ⟨hk.1.2.2.2.2.2.2.2.2.1, hk.1.2.2.2.2.2.2.2.2.2⟩⟩⟩⟩))).2.1 (Kd.N_F (Kd.N_mono (ok' := (fun k_ => (w.heap.size ≤ k_) ∧ some k_ ≠ (u3 : Value).ownBlock ∧ k_ ≠ gb328 ∧ k_ ≠ gb329 ∧ k_ ≠ gb352)) (HO392.out) (fun k_ hk => ⟨hk.1.1, ⟨hk.1.2.1, ⟨hk.1.2.2.2.2.2.2.2.1, ⟨hk.1.2.2.2.2.2.2.2.2.1, hk.1.2.2.2.2.2.2.2.2.2⟩⟩⟩⟩))))) (Reps.c4 (show Kd.FK k54 _ _ (⟨t393, t394, t395, t396⟩ : S54) [.int .i64 t393, .int .i64 t394, .string t395, .slice Ao42 t396.length co42] from (k54_mkF _ _ (⟨t393, t394, t395, t396⟩ : S54) (Kd.N_reads' (Kd.N_mono (ok' := (fun k_ => (w.heap.size ≤ k_) ∧ some k_ ≠ (u3 : Value).ownBlock ∧ k_ ≠ gb328 ∧ k_ ≠ gb329 ∧ k_ ≠ gb352)) (HO398.out) (fun k_ hk => ⟨hk.1, ⟨hk.2.1, ⟨hk.2.2.2.2.2.2.2.2.1, ⟨hk.2.2.2.2.2.2.2.2.2.1, hk.2.2.2.2.2.2.2.2.2.2⟩⟩⟩⟩))).2.1 (Kd.N_F (Kd.N_mono (ok' := (fun k_ => (w.heap.size ≤ k_) ∧ some k_ ≠ (u3 : Value).ownBlock ∧ k_ ≠ gb328 ∧ k_ ≠ gb329 ∧ k_ ≠ gb352)) (HO398.out) (fun k_ hk => ⟨hk.1, ⟨hk.2.1, ⟨hk.2.2.2.2.2.2.2.2.1, ⟨hk.2.2.2.2.2.2.2.2.2.1, hk.2.2.2.2.2.2.2.2.2.2⟩⟩⟩⟩))))) (Reps.none _ _))))))))
          intro v400 w43 ho44 hb hg_ hnew_
          clear hg_ hnew_
          (first | rw [← Ny399.out] at ho44 | (simp only [Int.reduceToNat] at ho44; rw [← Ny399.out] at ho44))
          have n0_ := Aside0.mk (Kd.N_elder' (kN HO_3.out) (by first | exact Kd.N_base ho44 | exact Kd.N_base (Kd.R_N ho44) | exact Kd.N_base (Kd.S_N ho44)) hb)
          have n1_ := Aside0.mk (Kd.N_elder' (kN HO_6.out) (by first | exact Kd.N_base ho44 | exact Kd.N_base (Kd.R_N ho44) | exact Kd.N_base (Kd.S_N ho44)) hb)
          have n2_ := Aside0.mk (Kd.N_lower ho44 (below_size bb))
          have n3_ := Aside0.mk (blk_below (rb BK328.out) hb)
          have n4_ := Aside0.mk (blk_below (g := gb329) (o := .cells #[.int .i64 0, .int .i64 0, .string (⟨#[]⟩ : ByteArray), .slice none 0 0] 54 (0, 0)) (rb BK329.out) hb)
          have n5_ := Aside0.mk (blk_below (rb BK352.out) hb)
          have n6_ := Aside0.mk (below_step bb hb)
          clear HO_3
          clear HO_6
          clear BK328
          clear BK329
          clear BK352
          clear HB
          clear HO368
          clear HO374
          clear HO380
          clear HO386
          clear HO392
          clear HO398
          have HO_3 := n0_
          have HO_6 := n1_
          have HO401 := n2_
          have BK328 := n3_
          have BK329 := n4_
          have BK352 := n5_
          have HB := n6_
          clear n0_ n1_ n2_ n3_ n4_ n5_ n6_
          clear hb ho44
          obtain ⟨Ao45, co45, eo45⟩ := Kd.N_slice HO401.out
          (first | subst eo45 | (injection eo45 with f1_ f2_ f3_; have f4_ := f1_.symm; have f5_ := f3_.symm; clear f1_ f2_ f3_; subst f4_; subst f5_))
          refine hK.out _ _ ⟨(blk_cell BK352.out 0).trans rfl, (blk_cell BK352.out 1).trans rfl, (blk_cell BK352.out 2).trans rfl, (blk_cell BK352.out 3).trans rfl, (blk_cell BK352.out 4).trans rfl, (blk_cell BK352.out 5).trans rfl⟩ (fun hHeld => ?_)
          clear hK K
          refine norm_ (a' := ?_) ?_ ?_
          rotate_left
          ·show Act.put _ (some 47) _ = _
           simp only [Act.put, List.setIfInBounds_toArray, List.set_cons_zero, List.set_cons_succ, i64_w, i32_w]
           rfl
          refine one_ (i := 19) (N := some 48) #[true, true, true, true, true, true, true, true, true, true, true, true, true, true, true, true, true, true, true, true, false, false, false] rfl rfl (one_of HT_.out (by kernel_rfl)) (by decide) (fun K hK => ?_)
          refine goes_ Try.func40 (by kernel_rfl) rfl #[.slice Ao45 y399.length co45] (by rfl) rfl rfl ag ?_
          with_reducible refine (pack_All.calls (fun k_ => ((w.heap.size ≤ k_) ∧ (some k_ ≠ (u3 : Value).ownBlock ∧ (k_ ≠ gb328 ∧ (k_ ≠ gb329 ∧ k_ ≠ gb352))))) _ _ y399 t402 t403 t404 t405 _ ?side1 A27.out).mono ?_
          (case side1 => exact Kd.N_V (HO401.out))
          rintro e w46 ⟨v406, rfl, ho0, hb⟩
          refine ⟨_, rfl, ?_⟩
          have n0_ := Aside0.mk (Kd.N_elder' (kN HO_3.out) (by first | exact Kd.N_base ho0 | exact Kd.N_base (Kd.R_N ho0) | exact Kd.N_base (Kd.S_N ho0)) hb)
          have n1_ := Aside0.mk (Kd.N_elder' (kN HO_6.out) (by first | exact Kd.N_base ho0 | exact Kd.N_base (Kd.R_N ho0) | exact Kd.N_base (Kd.S_N ho0)) hb)
          have n2_ := Aside0.mk (Kd.N_elder' (kN HO401.out) (by first | exact Kd.N_base ho0 | exact Kd.N_base (Kd.R_N ho0) | exact Kd.N_base (Kd.S_N ho0)) hb)
          have n3_ := Aside0.mk (Kd.N_lower (Kd.N_mono (ok' := fun k_ => (w.heap.size ≤ k_) ∧ some k_ ≠ (u3 : Value).ownBlock ∧ k_ ≠ gb328 ∧ k_ ≠ gb329 ∧ k_ ≠ gb352) ho0 (fun k_ hk_ => ⟨Or.elim hk_ (fun hs_ => hs_.1) (fun hn_ => (Nat.le_trans (below_size bb) hn_)), Or.elim hk_ (fun hs_ => hs_.2.1) (fun hn_ => (Kd.fresh' (Kd.N_lt (kN HO_3.out)) k_ hn_)), Or.elim hk_ (fun hs_ => hs_.2.2.1) (fun hn_ => (Kd.freshB (rb BK328.out) k_ hn_)), Or.elim hk_ (fun hs_ => hs_.2.2.2.1) (fun hn_ => (Kd.freshB (g := gb329) (o := .cells #[.int .i64 0, .int .i64 0, .string (⟨#[]⟩ : ByteArray), .slice none 0 0] 54 (0, 0)) (rb BK329.out) k_ hn_)), Or.elim hk_ (fun hs_ => hs_.2.2.2.2) (fun hn_ => (Kd.freshB (rb BK352.out) k_ hn_))⟩)) (below_size bb))
          have n4_ := Aside0.mk (blk_below (rb BK328.out) hb)
          have n5_ := Aside0.mk (blk_below (g := gb329) (o := .cells #[.int .i64 0, .int .i64 0, .string (⟨#[]⟩ : ByteArray), .slice none 0 0] 54 (0, 0)) (rb BK329.out) hb)
          have n6_ := Aside0.mk (blk_below (rb BK352.out) hb)
          have n7_ := Aside0.mk (below_step bb hb)
          clear HO_3
          clear HO_6
          clear HO401
          clear BK328
          clear BK329
          clear BK352
          clear HB
          have HO_3 := n0_
          have HO_6 := n1_
          have HO401 := n2_
          have HO407 := n3_
          have BK328 := n4_
          have BK329 := n5_
          have BK352 := n6_
          have HB := n7_
          clear n0_ n1_ n2_ n3_ n4_ n5_ n6_ n7_
          (try clear hb)
          (try clear hb2)
          (try clear hk)
          (try clear hi)
          (try clear ho0)
          obtain ⟨Ao48, co48, eo48⟩ := Kd.N_slice HO407.out
          (first | subst eo48 | (injection eo48 with f1_ f2_ f3_; have f4_ := f1_.symm; have f5_ := f3_.symm; clear f1_ f2_ f3_; subst f4_; subst f5_))
          refine hK.out _ _ ⟨(blk_cell BK352.out 0).trans rfl, (blk_cell BK352.out 1).trans rfl, (blk_cell BK352.out 2).trans rfl, (blk_cell BK352.out 3).trans rfl, (blk_cell BK352.out 4).trans rfl, (blk_cell BK352.out 5).trans rfl⟩ (fun hHeld => ?_)
          clear hK K
          refine norm_ (a' := ?_) ?_ ?_
          rotate_left
          ·show Act.put _ (some 48) _ = _
           simp only [Act.put, List.setIfInBounds_toArray, List.set_cons_zero, List.set_cons_succ, i64_w, i32_w]
           rfl
          refine one_ (i := 20) (N := some 49) #[true, true, true, true, true, true, true, true, true, true, true, true, true, true, true, true, true, true, true, true, true, false, false] rfl rfl (one_of HT_.out (by kernel_rfl)) (by decide) (fun K hK => ?_)
          refine value_ (w1 := ?_) (v := ?_) (by rfl) rfl ?_ ?_
          rotate_left 2
          ·go_simp
           constructor
           ·rfl
           ·rfl
          refine hK.out _ _ ⟨(blk_cell (blk_alloc BK352.out _) 0).trans rfl, (blk_cell (blk_alloc BK352.out _) 1).trans rfl, (blk_cell (blk_alloc BK352.out _) 2).trans rfl, (blk_cell (blk_alloc BK352.out _) 3).trans rfl, (blk_cell (blk_alloc BK352.out _) 4).trans rfl, (blk_cell (blk_alloc BK352.out _) 5).trans rfl⟩ (fun hHeld => ?_)
          clear hK K
          refine norm_ (a' := ?_) ?_ ?_
          rotate_left
          ·show Act.put _ (some 49) _ = _
           simp only [Act.put, List.setIfInBounds_toArray, List.set_cons_zero, List.set_cons_succ, i64_w, i32_w]
           rfl
          refine one_ (i := 21) (N := some 50) #[true, true, true, true, true, true, true, true, true, true, true, true, true, true, true, true, true, true, true, true, true, true, false] rfl rfl (one_of HT_.out (by kernel_rfl)) (by decide) (fun K hK => ?_)
          refine Kd.N_append_step k54 (w0 := w) w.heap.size (by rfl) (.tmp 29) (.tmp 49) 52 54 (.agg #[(.int .i64 0), (.int .i64 0), (.string ⟨#[]⟩), (.slice none 0 0)]) 56 rfl Try.underlying52 info54 rfl (by decide) (by omega) u3 x3_1 (⟨t402, t403, t404, t405⟩ : S54) [.int .i64 t402, .int .i64 t403, .string t404, .slice Ao48 t405.length co48] (fun k_ => (w.heap.size ≤ k_) ∧ k_ ≠ gb328 ∧ k_ ≠ gb329 ∧ k_ ≠ gb352) (fun k_ => ((fun k_ => (w.heap.size ≤ k_) ∧ k_ ≠ gb328 ∧ k_ ≠ gb329 ∧ k_ ≠ gb352)) k_ ∧ some k_ ≠ (u3 : Value).ownBlock) rfl rfl ?aP (fun _ hk => hk) ?aF ?aO ?aB ?aS ?aL ?_
          (case aP => exact (k54_mkF _ _ (⟨t402, t403, t404, t405⟩ : S54) (Kd.N_reads' (Kd.N_mono (ok' := (fun k_ => ((fun k_ => (w.heap.size ≤ k_) ∧ k_ ≠ gb328 ∧ k_ ≠ gb329 ∧ k_ ≠ gb352)) k_ ∧ some k_ ≠ (u3 : Value).ownBlock)) (HO407.out) (fun k_ hk => ⟨⟨hk.1, ⟨hk.2.2.1, ⟨hk.2.2.2.1, hk.2.2.2.2⟩⟩⟩, hk.2.1⟩))).2.1 (Kd.N_F (Kd.N_mono (ok' := (fun k_ => ((fun k_ => (w.heap.size ≤ k_) ∧ k_ ≠ gb328 ∧ k_ ≠ gb329 ∧ k_ ≠ gb352)) k_ ∧ some k_ ≠ (u3 : Value).ownBlock)) (HO407.out) (fun k_ hk => ⟨⟨hk.1, ⟨hk.2.2.1, ⟨hk.2.2.2.1, hk.2.2.2.2⟩⟩⟩, hk.2.1⟩)))))
          (case aB => exact bb)
          (case aF => exact (fun k_ hk => ⟨(Nat.le_trans (below_size bb) hk), Kd.freshB (rb BK328.out) k_ hk, Kd.freshB (g := gb329) (o := .cells #[.int .i64 0, .int .i64 0, .string (⟨#[]⟩ : ByteArray), .slice none 0 0] 54 (0, 0)) (rb BK329.out) k_ hk, Kd.freshB (rb BK352.out) k_ hk⟩))
          (case aO => exact (kN (Kd.N_mono HO_3.out (fun _ hk => ⟨hk.1.1.1.1.1.1.1.1.1, ⟨hk.1.1.1.1.1.1.1.1.2.2.1, ⟨hk.1.1.1.1.1.1.1.1.2.2.2.1, hk.1.1.1.1.1.1.1.1.2.2.2.2⟩⟩⟩))))
          (case aS => exact (below_size bb))
          (case aL => have := LMc28.out; omega)
          intro v409 w47 ho hb hg hat
          rw [← Ny408.out] at ho
          have n0_ := Aside0.mk (Kd.N_afterv (ok := (fun k_ => (w.heap.size ≤ k_) ∧ some k_ ≠ (.slice Ao45 y399.length co45 : Value).ownBlock ∧ some k_ ≠ (.slice Ao48 t405.length co48 : Value).ownBlock ∧ k_ ≠ gb328 ∧ k_ ≠ gb329 ∧ k_ ≠ gb352)) (kN (Kd.N_mono HO_6.out (fun _ hk => ⟨⟨hk.1.1.1.1.1.1.1.1.1, ⟨hk.1.2, ⟨hk.2, ⟨hk.1.1.1.1.1.1.1.1.2.2.1, ⟨hk.1.1.1.1.1.1.1.1.2.2.2.1, hk.1.1.1.1.1.1.1.1.2.2.2.2⟩⟩⟩⟩⟩, hk.1.1.1.1.1.1.1.1.2.1⟩))) hg hat)
          have n1_ := Aside0.mk (blk_grown (rb BK328.out) hg (Kd.N_ne HO_3.out BK328.out (by decide)))
          have n2_ := Aside0.mk (blk_grown (g := gb329) (o := .cells #[.int .i64 0, .int .i64 0, .string (⟨#[]⟩ : ByteArray), .slice none 0 0] 54 (0, 0)) (rb BK329.out) hg (Kd.N_away HO_3.out (fun _ hk => hk.1.1.1.1.1.1.1.1.2.2.2.1)))
          have n3_ := Aside0.mk (blk_grown (rb BK352.out) hg (Kd.N_ne HO_3.out BK352.out (by decide)))
          have n4_ := Aside0.mk (Kd.N_afterv (ok := (fun k_ => (w.heap.size ≤ k_) ∧ some k_ ≠ (.slice Ao48 t405.length co48 : Value).ownBlock ∧ k_ ≠ gb328 ∧ k_ ≠ gb329 ∧ k_ ≠ gb352)) (kN (Kd.N_mono HO401.out (fun _ hk => ⟨⟨hk.1.1, ⟨hk.2, ⟨hk.1.2.2.1, ⟨hk.1.2.2.2.1, hk.1.2.2.2.2⟩⟩⟩⟩, hk.1.2.1⟩))) hg hat)
          have n5_ := Aside0.mk (hb)
          have n6_ := Aside0.mk (ho)
          clear HO_6
          clear BK328
          clear BK329
          clear BK352
          clear HO401
          clear HB
          clear HO_3
          clear HO407
          have HO_6 := n0_
          have BK328 := n1_
          have BK329 := n2_
          have BK352 := n3_
          have HO401 := n4_
          have HB := n5_
          have HO410 := n6_
          clear n0_ n1_ n2_ n3_ n4_ n5_ n6_
          clear ho hb hg hat
          refine hK.out _ _ ⟨(blk_cell BK352.out 0).trans rfl, (blk_cell BK352.out 1).trans rfl, (blk_cell BK352.out 2).trans rfl, (blk_cell BK352.out 3).trans rfl, (blk_cell BK352.out 4).trans rfl, (blk_cell BK352.out 5).trans rfl⟩ (fun hHeld => ?_)
          clear hK K
          refine norm_ (a' := ?_) ?_ ?_
          rotate_left
          ·show Act.put _ (some 50) _ = _
           simp only [Act.put, List.setIfInBounds_toArray, List.set_cons_zero, List.set_cons_succ, i64_w, i32_w]
           rfl
          refine pure_ (i := 22) (N := some 3) (v := ?_) (a' := ?_) #[true, true, true, true, true, true, true, true, true, true, true, true, true, true, true, true, true, true, true, true, true, true, true] rfl rfl (any_of HT_.out (by kernel_rfl)) (fun _ _ _ h => h) (Or.inl ⟨by rfl, ?_⟩) ?_ ?_
          rotate_left
          ·intro w'
           go_simp
           with_reducible rfl
          rotate_left
          ·simp only [Act.put, List.setIfInBounds_toArray, List.set_cons_zero, List.set_cons_succ, i64_w, i32_w]
           rfl
          refine done_ (done_of HT_.out (by kernel_rfl)) ?_
          try go_wp2
          go_roundg k2
          case measure => have := HK1.out; have := HK2.out; omega
          case rel => exact ⟨(y408), (wrap64 (x12_1 + 1)), (by first | rfl | (simp; done) | (simp [*]; done)), H', ⟨by have := HK1.out; have := HK2.out; omega⟩, ⟨kN (Kd.N_mono HO410.out (fun _ hk => ⟨hk.1, ⟨hk.2.1, hk.2.2.1⟩⟩))⟩, ⟨by (with_reducible repeat (first | refine blk_drewN ?_ _ | refine blk_drew ?_ | refine blk_alloc ?_ _)); exact BK328.out⟩, ⟨by (with_reducible repeat (first | refine blk_drewN ?_ _ | refine blk_drew ?_ | refine blk_alloc ?_ _)); exact BK329.out⟩, ⟨bb⟩⟩
         ·rw [if_neg c28] at H
          exact absurd H (by simp)
     ·rw [if_neg c8] at H
      exact absurd H (by simp)
    ·rw [if_neg c7] at H
     exact absurd H (by simp)
   ·rw [if_neg c6] at H
    have c6b0 : decide (x12_1 < (l0_1.length : Int)) = false := decide_eq_false c6
    clear c6
    replace H := Option.bind_eq_some_iff.mp H
    obtain ⟨⟨t330, t331, t332, t333⟩, A490, H⟩ := H
    replace H : ((pack_All.f x3_1).bind fun bt336 => ((pack_All.f (([(⟨t330, t331, t332, t333⟩ : S54), (⟨bt336.1, bt336.2.1, bt336.2.2.1, bt336.2.2.2⟩ : S54)] : List (S54)))).bind fun bt345 => (some (bt345.1, bt345.2.1, bt345.2.2.1, bt345.2.2.2)))) = some (r1, r2, r3, r4) := H
    have A49 := Aside0.mk A490
    clear A490
    replace H := Option.bind_eq_some_iff.mp H
    obtain ⟨⟨t336, t337, t338, t339⟩, A500, H⟩ := H
    replace H : ((pack_All.f (([(⟨t330, t331, t332, t333⟩ : S54), (⟨t336, t337, t338, t339⟩ : S54)] : List (S54)))).bind fun bt345 => (some (bt345.1, bt345.2.1, bt345.2.2.1, bt345.2.2.2))) = some (r1, r2, r3, r4) := H
    have A50 := Aside0.mk A500
    clear A500
    obtain ⟨y342, hy342⟩ : ∃ y_ : List (S54), y_ = (([(⟨t330, t331, t332, t333⟩ : S54), (⟨t336, t337, t338, t339⟩ : S54)] : List (S54))) := ⟨_, rfl⟩
    replace H : ((pack_All.f y342).bind fun bt345 => (some (bt345.1, bt345.2.1, bt345.2.2.1, bt345.2.2.2))) = some (r1, r2, r3, r4) := by first | (rw [hy342]; with_reducible exact H) | (have H2_ := (Option.bind_some _ _).symm.trans H; rw [hy342]; with_reducible exact H2_) | (have H2_ := (Option.bind_some _ _).symm.trans H; with_reducible exact H2_) | with_reducible exact H | (rw [hy342]; exact H) | exact H
    have Ny342 := Aside0.mk hy342
    clear hy342
    replace H := Option.bind_eq_some_iff.mp H
    obtain ⟨⟨t345, t346, t347, t348⟩, A510, H⟩ := H
    replace H : (some (t345, t346, t347, t348)) = some (r1, r2, r3, r4) := H
    have A51 := Aside0.mk A510
    clear A510
    simp only [Option.some.injEq, Prod.mk.injEq] at H
    obtain ⟨rfl, rfl, rfl, rfl⟩ := H
    have hnb52 := NB328_329.out
    have hnc52 := NB329_328.out
    have hcz53_0 : wr.cell? ⟨gb328, 0, none⟩ = some (.string a0_0) := (blk_cell BK328.out 0).trans rfl
    have hcz53_1 : wr.cell? ⟨gb328, 1, none⟩ = some (.slice A0_1 l0_1.length c0_1) := (blk_cell BK328.out 1).trans rfl
    have hfz53_0 := blk_frozen BK328.out 0
    have hfz53_1 := blk_frozen BK328.out 1
    go_wp2_with (first | ((with_reducible refine gate_callee (f := 64) rfl ?_); refine goesL_ (some 54) rfl rfl Try.func64 (by kernel_rfl) rfl #[.string a0_0] rfl ag ?_; (with_reducible refine (pack_Str.calls a0_0 t330 t331 t332 t333 _ A49.out).mono ?_); rintro e w54 ⟨v334, rfl, ho0, hb⟩; refine ⟨_, rfl, ?_⟩; have n0_ := Aside0.mk (Kd.N_elder' (kN HO_3.out) (by first | exact Kd.N_base ho0 | exact Kd.N_base (Kd.R_N ho0) | exact Kd.N_base (Kd.S_N ho0)) hb); have n1_ := Aside0.mk (Kd.N_lower (Kd.N_mono (ok' := fun k_ => (w.heap.size ≤ k_) ∧ some k_ ≠ (u3 : Value).ownBlock ∧ k_ ≠ gb328 ∧ k_ ≠ gb329) (Kd.R_N (Kd.R_bound ho0)) (fun k_ hk_ => ⟨(Nat.le_trans (below_size bb) hk_.2.1), (Kd.fresh' (Kd.N_lt (kN HO_3.out)) k_ hk_.2.1), (Kd.freshB (rb BK328.out) k_ hk_.2.1), (Kd.freshB (g := gb329) (o := .cells #[.int .i64 0, .int .i64 0, .string (⟨#[]⟩ : ByteArray), .slice none 0 0] 54 (0, 0)) (rb BK329.out) k_ hk_.2.1)⟩)) (below_size bb)); have n2_ := Aside0.mk (blk_below (rb BK328.out) hb); have n3_ := Aside0.mk (blk_below (g := gb329) (o := .cells #[.int .i64 0, .int .i64 0, .string (⟨#[]⟩ : ByteArray), .slice none 0 0] 54 (0, 0)) (rb BK329.out) hb); have n4_ := Aside0.mk (below_step bb hb); clear HO_3; clear BK328; clear BK329; clear HB; have HO_3 := n0_; have HO335 := n1_; have BK328 := n2_; have BK329 := n3_; have HB := n4_; clear n0_ n1_ n2_ n3_ n4_; (try clear hb); (try clear hb2); (try clear hk); (try clear hi); (try clear ho0); obtain ⟨Ao55, co55, eo55⟩ := Kd.N_slice HO_3.out; subst eo55) | ((with_reducible refine gate_callee (f := 40) rfl ?_); refine goesL_ (some 56) rfl rfl Try.func40 (by kernel_rfl) rfl #[.slice Ao55 x3_1.length co55] rfl ag ?_; (with_reducible refine (pack_All.calls (fun k_ => (((w.heap.size ≤ k_) ∧ (k_ ≠ gb328 ∧ k_ ≠ gb329)) ∧ some k_ ≠ (v334 : Value).ownBlock)) _ _ x3_1 t336 t337 t338 t339 _ ?side1 A50.out).mono ?_); (case side1 => exact Kd.N_V (HO_3.out)); rintro e w56 ⟨v340, rfl, ho0, hb⟩; refine ⟨_, rfl, ?_⟩; have n0_ := Aside0.mk (Kd.N_elder' (kN HO_3.out) (by first | exact Kd.N_base ho0 | exact Kd.N_base (Kd.R_N ho0) | exact Kd.N_base (Kd.S_N ho0)) hb); have n1_ := Aside0.mk (Kd.N_elder' (kN HO335.out) (by first | exact Kd.N_base ho0 | exact Kd.N_base (Kd.R_N ho0) | exact Kd.N_base (Kd.S_N ho0)) hb); have n2_ := Aside0.mk (Kd.N_lower (Kd.N_mono (ok' := fun k_ => (w.heap.size ≤ k_) ∧ some k_ ≠ (v334 : Value).ownBlock ∧ k_ ≠ gb328 ∧ k_ ≠ gb329) ho0 (fun k_ hk_ => ⟨Or.elim hk_ (fun hs_ => hs_.1.1) (fun hn_ => (Nat.le_trans (below_size bb) hn_)), Or.elim hk_ (fun hs_ => hs_.2) (fun hn_ => (Kd.fresh' (Kd.N_lt (kN HO335.out)) k_ hn_)), Or.elim hk_ (fun hs_ => hs_.1.2.1) (fun hn_ => (Kd.freshB (rb BK328.out) k_ hn_)), Or.elim hk_ (fun hs_ => hs_.1.2.2) (fun hn_ => (Kd.freshB (g := gb329) (o := .cells #[.int .i64 0, .int .i64 0, .string (⟨#[]⟩ : ByteArray), .slice none 0 0] 54 (0, 0)) (rb BK329.out) k_ hn_))⟩)) (below_size bb)); have n3_ := Aside0.mk (blk_below (rb BK328.out) hb); have n4_ := Aside0.mk (blk_below (g := gb329) (o := .cells #[.int .i64 0, .int .i64 0, .string (⟨#[]⟩ : ByteArray), .slice none 0 0] 54 (0, 0)) (rb BK329.out) hb); have n5_ := Aside0.mk (below_step bb hb); clear HO_3; clear HO335; clear BK328; clear BK329; clear HB; have HO_3 := n0_; have HO335 := n1_; have HO341 := n2_; have BK328 := n3_; have BK329 := n4_; have HB := n5_; clear n0_ n1_ n2_ n3_ n4_ n5_; (try clear hb); (try clear hb2); (try clear hk); (try clear hi); (try clear ho0); obtain ⟨Ao57, co57, eo57⟩ := Kd.N_slice HO335.out; subst eo57; obtain ⟨Ao58, co58, eo58⟩ := Kd.N_slice HO341.out; subst eo58) | ((with_reducible refine gate_dst (N := 57) rfl ?_); refine Kd.N_lit k54 _ 54 ?hg (N' := 57) ?hd (xs := ([(⟨t330, t331, t332, t333⟩ : S54), (⟨t336, t337, t338, t339⟩ : S54)] : List (S54))) (inner := [.int .i64 t330, .int .i64 t331, .string t332, .slice Ao57 t333.length co57, .int .i64 t336, .int .i64 t337, .string t338, .slice Ao58 t339.length co58]) (ok := (fun k_ => (w.heap.size ≤ k_) ∧ k_ ≠ gb328 ∧ k_ ≠ gb329)) (okp := (fun k_ => (w.heap.size ≤ k_) ∧ k_ ≠ gb328 ∧ k_ ≠ gb329)) ?hr ?hp (fun _ hk => hk) ((show ∀ k_, w56.heap.size ≤ k_ → (fun k_ => (w.heap.size ≤ k_) ∧ k_ ≠ gb328 ∧ k_ ≠ gb329) k_ from fun k_ hk => ⟨(Nat.le_trans (below_size bb) hk), Kd.freshB (rb BK328.out) k_ hk, Kd.freshB (g := gb329) (o := .cells #[.int .i64 0, .int .i64 0, .string (⟨#[]⟩ : ByteArray), .slice none 0 0] 54 (0, 0)) (rb BK329.out) k_ hk⟩) _ (Nat.le_refl _)) (Below.refl _ _) (Nat.le_refl _) (by simp) ?_; (case hd => rfl); (case hg => rfl); (case hr => first | (go_simp; done) | (go_simp; rfl)); (case hp => exact (Reps.c4 (show Kd.FK k54 _ _ (⟨t330, t331, t332, t333⟩ : S54) [.int .i64 t330, .int .i64 t331, .string t332, .slice Ao57 t333.length co57] from (k54_mkF _ _ (⟨t330, t331, t332, t333⟩ : S54) (Kd.N_reads' (Kd.N_mono (ok' := (fun k_ => (w.heap.size ≤ k_) ∧ k_ ≠ gb328 ∧ k_ ≠ gb329)) (HO335.out) (fun k_ hk => ⟨hk.1.1, ⟨hk.1.2.2.1, hk.1.2.2.2⟩⟩))).2.1 (Kd.N_F (Kd.N_mono (ok' := (fun k_ => (w.heap.size ≤ k_) ∧ k_ ≠ gb328 ∧ k_ ≠ gb329)) (HO335.out) (fun k_ hk => ⟨hk.1.1, ⟨hk.1.2.2.1, hk.1.2.2.2⟩⟩))))) (Reps.c4 (show Kd.FK k54 _ _ (⟨t336, t337, t338, t339⟩ : S54) [.int .i64 t336, .int .i64 t337, .string t338, .slice Ao58 t339.length co58] from (k54_mkF _ _ (⟨t336, t337, t338, t339⟩ : S54) (Kd.N_reads' (Kd.N_mono (ok' := (fun k_ => (w.heap.size ≤ k_) ∧ k_ ≠ gb328 ∧ k_ ≠ gb329)) (HO341.out) (fun k_ hk => ⟨hk.1, ⟨hk.2.2.1, hk.2.2.2⟩⟩))).2.1 (Kd.N_F (Kd.N_mono (ok' := (fun k_ => (w.heap.size ≤ k_) ∧ k_ ≠ gb328 ∧ k_ ≠ gb329)) (HO341.out) (fun k_ hk => ⟨hk.1, ⟨hk.2.2.1, hk.2.2.2⟩⟩))))) (Reps.none _ _)))); intro v343 w59 ho60 hb hg_ hnew_; clear hg_ hnew_; (first | rw [← Ny342.out] at ho60 | (simp only [Int.reduceToNat] at ho60; rw [← Ny342.out] at ho60)); have n0_ := Aside0.mk (Kd.N_elder' (kN HO_3.out) (by first | exact Kd.N_base ho60 | exact Kd.N_base (Kd.R_N ho60) | exact Kd.N_base (Kd.S_N ho60)) hb); have n1_ := Aside0.mk (Kd.N_lower ho60 (below_size bb)); have n2_ := Aside0.mk (blk_below (rb BK328.out) hb); have n3_ := Aside0.mk (blk_below (g := gb329) (o := .cells #[.int .i64 0, .int .i64 0, .string (⟨#[]⟩ : ByteArray), .slice none 0 0] 54 (0, 0)) (rb BK329.out) hb); have n4_ := Aside0.mk (below_step bb hb); clear HO_3; clear BK328; clear BK329; clear HB; clear HO335; clear HO341; have HO_3 := n0_; have HO344 := n1_; have BK328 := n2_; have BK329 := n3_; have HB := n4_; clear n0_ n1_ n2_ n3_ n4_; clear hb ho60; obtain ⟨Ao61, co61, eo61⟩ := Kd.N_slice HO344.out; subst eo61) | ((with_reducible refine gate_callee (f := 40) rfl ?_); refine goesL_ (some 58) rfl rfl Try.func40 (by kernel_rfl) rfl #[.slice Ao61 y342.length co61] rfl ag ?_; (with_reducible refine (pack_All.calls (fun k_ => ((w.heap.size ≤ k_) ∧ (k_ ≠ gb328 ∧ k_ ≠ gb329))) _ _ y342 t345 t346 t347 t348 _ ?side1 A51.out).mono ?_); (case side1 => exact Kd.N_V (HO344.out)); rintro e w62 ⟨v349, rfl, ho0, hb⟩; refine ⟨_, rfl, ?_⟩; have n0_ := Aside0.mk (Kd.N_elder' (kN HO_3.out) (by first | exact Kd.N_base ho0 | exact Kd.N_base (Kd.R_N ho0) | exact Kd.N_base (Kd.S_N ho0)) hb); have n1_ := Aside0.mk (Kd.N_elder' (kN HO344.out) (by first | exact Kd.N_base ho0 | exact Kd.N_base (Kd.R_N ho0) | exact Kd.N_base (Kd.S_N ho0)) hb); have n2_ := Aside0.mk (Kd.N_lower (Kd.N_mono (ok' := fun k_ => (w.heap.size ≤ k_) ∧ k_ ≠ gb328 ∧ k_ ≠ gb329) ho0 (fun k_ hk_ => ⟨Or.elim hk_ (fun hs_ => hs_.1) (fun hn_ => (Nat.le_trans (below_size bb) hn_)), Or.elim hk_ (fun hs_ => hs_.2.1) (fun hn_ => (Kd.freshB (rb BK328.out) k_ hn_)), Or.elim hk_ (fun hs_ => hs_.2.2) (fun hn_ => (Kd.freshB (g := gb329) (o := .cells #[.int .i64 0, .int .i64 0, .string (⟨#[]⟩ : ByteArray), .slice none 0 0] 54 (0, 0)) (rb BK329.out) k_ hn_))⟩)) (below_size bb)); have n3_ := Aside0.mk (blk_below (rb BK328.out) hb); have n4_ := Aside0.mk (blk_below (g := gb329) (o := .cells #[.int .i64 0, .int .i64 0, .string (⟨#[]⟩ : ByteArray), .slice none 0 0] 54 (0, 0)) (rb BK329.out) hb); have n5_ := Aside0.mk (below_step bb hb); clear HO_3; clear HO344; clear BK328; clear BK329; clear HB; have HO_3 := n0_; have HO344 := n1_; have HO350 := n2_; have BK328 := n3_; have BK329 := n4_; have HB := n5_; clear n0_ n1_ n2_ n3_ n4_ n5_; (try clear hb); (try clear hb2); (try clear hk); (try clear hi); (try clear ho0); have hcz63_0 : w62.cell? ⟨gb329, 0, none⟩ = some (.int .i64 0) := (blk_cell BK329.out 0).trans rfl; have hcz63_1 : w62.cell? ⟨gb329, 1, none⟩ = some (.int .i64 0) := (blk_cell BK329.out 1).trans rfl; have hcz63_2 : w62.cell? ⟨gb329, 2, none⟩ = some (.string (⟨#[]⟩ : ByteArray)) := (blk_cell BK329.out 2).trans rfl; have hcz63_3 : w62.cell? ⟨gb329, 3, none⟩ = some (.slice none 0 0) := (blk_cell BK329.out 3).trans rfl; have hfz63_0 := blk_frozen BK329.out 0; have hfz63_1 := blk_frozen BK329.out 1; have hfz63_2 := blk_frozen BK329.out 2; have hfz63_3 := blk_frozen BK329.out 3; obtain ⟨Ao64, co64, eo64⟩ := Kd.N_slice HO350.out; subst eo64))
    refine bodyPost_ret (results_cell_row rfl _ _ gb329 54 #[.int .i64 t345, .int .i64 t346, .string t347, .slice Ao64 t348.length co64] (0, 0) _ rfl (rb (blk_put (cs := #[.int .i64 t345, .int .i64 t346, .string t347, .slice none 0 0]) (rb (blk_put (cs := #[.int .i64 t345, .int .i64 t346, .string (⟨#[]⟩ : ByteArray), .slice none 0 0]) (rb (blk_put (cs := #[.int .i64 t345, .int .i64 0, .string (⟨#[]⟩ : ByteArray), .slice none 0 0]) (rb (blk_put (cs := #[.int .i64 0, .int .i64 0, .string (⟨#[]⟩ : ByteArray), .slice none 0 0]) (rb BK329.out) 0 _ rfl)) 1 _ rfl)) 2 _ rfl)) 3 _ rfl)) Try.underlying54 rfl (by kernel_rfl)) rfl ?_
    exact ⟨_, by first | rfl | (simp [errW_none, errW_some] <;> rfl) | (simp [*, errW_none, errW_some] <;> rfl), kN (Kd.N_mono (Kd.N_far (p := ⟨gb329, 3, none⟩) (Kd.N_far (p := ⟨gb329, 2, none⟩) (Kd.N_far (p := ⟨gb329, 1, none⟩) (Kd.N_far (p := ⟨gb329, 0, none⟩) (Kd.N_mono HO350.out (fun k_ hk => (⟨hk, hk.2.2⟩ : _ ∧ k_ ≠ gb329))) (fun _ hk => hk.2) (.int .i64 t345)) (fun _ hk => hk.2) (.int .i64 t346)) (fun _ hk => hk.2) (.string t347)) (fun _ hk => hk.2) (.slice Ao64 t348.length co64)) (fun _ hk => hk.1.1)), bb⟩

end Go.Proofs.Ytjicfkmpgogppaa.PG
