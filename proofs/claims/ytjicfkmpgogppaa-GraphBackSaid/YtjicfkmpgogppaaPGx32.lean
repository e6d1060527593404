-- printed by a program of this session out of the translation; see NOTES.md
import Derived.Test.YtjicfkmpgogppaaPGx0
import Derived.Test.YtjicfkmpgogppaaPGx1
import Derived.Test.YtjicfkmpgogppaaPGx17
import Derived.Test.YtjicfkmpgogppaaPGx22
import Derived.Test.YtjicfkmpgogppaaPGx25
import Derived.Test.YtjicfkmpgogppaaPGx29
import Derived.Test.YtjicfkmpgogppaaPGx31
import Derived.Test.YtjicfkmpgogppaaRb
namespace Go.Proofs.Ytjicfkmpgogppaa.PG
open Go.RowKit Go.Proofs.YtjicfkmpgogppaaW.PrintWords Go.Proofs.YtjicfkmpgogppaaW.PrintLast Go.Proofs.YtjicfkmpgogppaaW.PrintMore Go.Proofs.YtjicfkmpgogppaaRb
attribute [local go_sem] max2_int min2_int max_two min_two max_three min_three max_four min_four   -- for this text's walks alone
set_option linter.unusedVariables false
set_option linter.unusedSimpArgs false

/-! ### precinctlaw12_GraphBack: function 7 -/
mutual
def precinctlaw12_GraphBack.l0 : Nat → List (S137) → Bool → List (S48) → Int → Int → ByteArray → List (S48) → Option (Bool)
 | 0, _, _, _, _, _, _, _ => none
 | k + 1, x1, x7, x22, x23, x24, x586000, x586001 => if x24 < x23 then (if 0 ≤ x24 then (if x24 < (x22.length : Int) then (if x7 = true then (if ((rd_T48 x22 x24).f2) = (wrap64 (wrap32 ((rd_T48 x22 x24).f2))) then (precinctlaw12_GraphBack.l0 k x1 (((rd_T48 x22 x24).f4) == (wrap64 (wrap32 ((rd_T48 x22 x24).f4)))) x22 x23 (wrap64 (x24 + 1)) x586000 x586001) else (precinctlaw12_GraphBack.l0 k x1 false x22 x23 (wrap64 (x24 + 1)) x586000 x586001)) else (precinctlaw12_GraphBack.l0 k x1 false x22 x23 (wrap64 (x24 + 1)) x586000 x586001)) else (none)) else (none)) else ((graph_Value.f k x586000 x586001).bind fun bt589 => ((graph_Read.f k bt589.1 bt589.2.1 bt589.2.2.1 bt589.2.2.2).bind fun bt595 => ((precinctlaw12_wakes.f).bind fun t601 => (if t601 = true then (if ((bt595.2.2 == 0) != x7) = true then (precinctlaw12_GraphBack.j1 k x1 true) else (if x7 = true then ((graph_Value.f k bt595.1 bt595.2.1).bind fun bt602 => ((graph_Value.f k x586000 x586001).bind fun bt608 => ((pack_Equal.f bt602.1 bt602.2.1 bt602.2.2.1 bt602.2.2.2 bt608.1 bt608.2.1 bt608.2.2.1 bt608.2.2.2).bind fun t614 => (precinctlaw12_GraphBack.j1 k x1 (!t614))))) else (precinctlaw12_GraphBack.j1 k x1 false))) else (precinctlaw12_GraphBack.j1 k x1 true)))))
def precinctlaw12_GraphBack.j1 : Nat → List (S137) → Bool → Option (Bool)
 | 0, _, _ => none
 | k + 1, x1, x72 => if x72 = true then (some false) else ((precinctlaw12_build.f x1).bind fun bt615 => ((graph_Read.f k bt615.1 bt615.2.1 bt615.2.2.1 bt615.2.2.2.1).bind fun bt629 => (if bt629.2.2 = 0 then ((graph_Value.f k bt629.1 bt629.2.1).bind fun bt635 => ((pack_Equal.f bt635.1 bt635.2.1 bt635.2.2.1 bt635.2.2.2 bt615.1 bt615.2.1 bt615.2.2.1 bt615.2.2.2.1).bind fun t641 => (some t641))) else (if bt629.2.2 = 4 then (some true) else (some false)))))
end
def precinctlaw12_GraphBack.f (k : Nat) (a0_0 : ByteArray) (l0_1 : List (S124)) (l1 : List (S137)) : Option (Bool) := (precinctlaw12_flows.f a0_0 l0_1).bind fun bt577 => (precinctlaw12_GraphBack.l0 k l1 true bt577.2.1 (bt577.2.1.length : Int) 0 bt577.1 bt577.2.1)
theorem precinctlaw12_GraphBack.mono_l : ∀ k, (∀ y0 y1 y2 y3 y4 y5 y6, LeO (precinctlaw12_GraphBack.l0 k y0 y1 y2 y3 y4 y5 y6) (precinctlaw12_GraphBack.l0 (k + 1) y0 y1 y2 y3 y4 y5 y6)) ∧ (∀ y0 y1, LeO (precinctlaw12_GraphBack.j1 k y0 y1) (precinctlaw12_GraphBack.j1 (k + 1) y0 y1))
 | 0 => ⟨fun _ _ _ _ _ _ _ r h => by simp [precinctlaw12_GraphBack.l0] at h, fun _ _ r h => by simp [precinctlaw12_GraphBack.j1] at h⟩
 | k + 1 => by
  obtain ⟨ih0, ih1⟩ := precinctlaw12_GraphBack.mono_l k
  refine ⟨?_, ?_⟩
  ·intro y0 y1 y2 y3 y4 y5 y6
   unfold precinctlaw12_GraphBack.l0
   repeat' first
   | (with_reducible exact ih0 _ _ _ _ _ _ _)
   | (with_reducible exact ih1 _ _)
   | (with_reducible exact graph_Read.mono _ _ _ _ _)
   | (with_reducible exact graph_Value.mono _ _ _)
   | (with_reducible exact LeO.refl _)
   | (with_reducible exact LeO.none _)
   | (with_reducible refine LeO.ite ?_ ?_)
   | (with_reducible refine LeO.bind ?_ (fun _ => ?_))
   | exact ih0 _ _ _ _ _ _ _
   | exact ih1 _ _
   | exact graph_Read.mono _ _ _ _ _
   | exact graph_Value.mono _ _ _
   | exact LeO.none _
   | refine LeO.ite ?_ ?_
   | refine LeO.bind ?_ (fun _ => ?_)
  ·intro y0 y1
   unfold precinctlaw12_GraphBack.j1
   repeat' first
   | (with_reducible exact ih0 _ _ _ _ _ _ _)
   | (with_reducible exact ih1 _ _)
   | (with_reducible exact graph_Read.mono _ _ _ _ _)
   | (with_reducible exact graph_Value.mono _ _ _)
   | (with_reducible exact LeO.refl _)
   | (with_reducible exact LeO.none _)
   | (with_reducible refine LeO.ite ?_ ?_)
   | (with_reducible refine LeO.bind ?_ (fun _ => ?_))
   | exact ih0 _ _ _ _ _ _ _
   | exact ih1 _ _
   | exact graph_Read.mono _ _ _ _ _
   | exact graph_Value.mono _ _ _
   | exact LeO.none _
   | refine LeO.ite ?_ ?_
   | refine LeO.bind ?_ (fun _ => ?_)
theorem precinctlaw12_GraphBack.mono : ∀ a0 a1 a2 k, LeO (precinctlaw12_GraphBack.f k a0 a1 a2) (precinctlaw12_GraphBack.f (k + 1) a0 a1 a2) := by
 intro a0 a1 a2 k
 obtain ⟨ih0, ih1⟩ := precinctlaw12_GraphBack.mono_l k
 unfold precinctlaw12_GraphBack.f
 repeat' first
   | (with_reducible exact ih0 _ _ _ _ _ _ _)
   | (with_reducible exact ih1 _ _)
   | (with_reducible exact graph_Read.mono _ _ _ _ _)
   | (with_reducible exact graph_Value.mono _ _ _)
   | (with_reducible exact LeO.refl _)
   | (with_reducible exact LeO.none _)
   | (with_reducible refine LeO.ite ?_ ?_)
   | (with_reducible refine LeO.bind ?_ (fun _ => ?_))
   | exact ih0 _ _ _ _ _ _ _
   | exact ih1 _ _
   | exact graph_Read.mono _ _ _ _ _
   | exact graph_Value.mono _ _ _
   | exact LeO.none _
   | refine LeO.ite ?_ ?_
   | refine LeO.bind ?_ (fun _ => ?_)
def precinctlaw12_GraphBack.T9 : Bool × List (List Nat × List Nat) := (true, [([], []), ([0], [0]), ([1, 0], [1]), ([2], [2]), ([3, 2], [2, 3]), ([2], [2]), ([4, 5, 2], [2, 4, 5]), ([2, 6], [2, 6]), ([7, 2], [7]), ([8], [8]), ([9, 8, 8], [8, 9]), ([10], [10]), ([11, 10, 10], [10, 11]), ([10], [10]), ([13, 12, 10], [10, 13]), ([12, 14, 14, 10], [10, 12, 14]), ([15, 10], [10, 15]), ([10, 16, 8], [8, 10, 16]), ([8, 17], [8, 17])])
def precinctlaw12_GraphBack.B9 : List Nat := [0, 1, 3, 7, 15, 7, 63, 127, 255, 511, 1023, 2047, 4095, 2047, 16383, 32767, 65535, 131071, 262143]
theorem precinctlaw12_GraphBack.tab9 : rtab .any (opsOf Try.f7 9) = precinctlaw12_GraphBack.T9 := by kernel_rfl
theorem precinctlaw12_GraphBack.bits9 : waitsOk precinctlaw12_GraphBack.T9.2 precinctlaw12_GraphBack.B9 = true := by kernel_rfl
def precinctlaw12_GraphBack.T13 : Bool × List (List Nat × List Nat) := (true, [([], []), ([0], [0]), ([1], [1]), ([2], [2]), ([3, 2], [2, 3]), ([2, 4], [2, 4]), ([5, 2], [5]), ([6], [6]), ([7, 6], [6, 7]), ([8, 6, 6], [6, 8]), ([9], [9]), ([10, 9, 9], [9, 10]), ([9], [9]), ([11, 12, 11, 9], [9, 11, 12]), ([9, 13, 6], [6, 9, 13]), ([6, 14], [6, 14]), ([15, 13, 0, 1, 2, 3, 4, 5, 6, 7, 8, 9, 10, 11, 12, 13, 14, 15], [15])])
def precinctlaw12_GraphBack.B13 : List Nat := [0, 1, 3, 7, 15, 31, 63, 127, 255, 511, 1023, 2047, 1023, 8191, 16383, 32767, 65535]
theorem precinctlaw12_GraphBack.tab13 : rtab .any (opsOf Try.f7 13) = precinctlaw12_GraphBack.T13 := by kernel_rfl
theorem precinctlaw12_GraphBack.bits13 : waitsOk precinctlaw12_GraphBack.T13.2 precinctlaw12_GraphBack.B13 = true := by kernel_rfl
set_option maxHeartbeats 8000000 in
set_option maxRecDepth 100000 in
theorem precinctlaw12_GraphBack.calls (k : Nat) (a0_0 : ByteArray) (A0_1 : Option Addr) (c0_1 : Nat) (l0_1 : List (S124)) (A1 : Option Addr) (c1 : Nat) (l1 : List (S137)) (r : Bool) (w : World) (hr0_1 : Kd.C k124 w A0_1 l0_1.length l0_1) (hc0_1 : l0_1.length ≤ c0_1) (hr1 : Kd.C k137 w A1 l1.length l1) (hc1 : l1.length ≤ c1) (hT_ : Aside0 (r = true)) (h : precinctlaw12_GraphBack.f k a0_0 l0_1 l1 = some r) :
  Calls Try.prog 7 #[.agg #[.string a0_0, .slice A0_1 l0_1.length c0_1], .slice A1 l1.length c1] w fun e w' => e = .returned (.bool r) ∧ Below w.heap.size w w' := by
 have hu24 := Try.underlying24
 have hu27 := Try.underlying27
 have hu30 := Try.underlying30
 have hu48 := Try.underlying48
 have hu54 := Try.underlying54
 have hu57 := Try.underlying57
 have HR0_1 := Aside0.mk hr0_1
 have HC0_1 := Aside0.mk hc0_1
 clear hr0_1 hc0_1
 have HR1 := Aside0.mk hr1
 have HC1 := Aside0.mk hc1
 clear hr1 hc1
 have HB := Aside0.mk (Below.refl w.heap.size w)
 have H : ((precinctlaw12_flows.f a0_0 l0_1).bind fun bt577 => (precinctlaw12_GraphBack.l0 k l1 true bt577.2.1 (bt577.2.1.length : Int) 0 bt577.1 bt577.2.1)) = some r := h
 clear h
 replace H := Option.bind_eq_some_iff.mp H
 obtain ⟨⟨t577, t578, t581, t582⟩, A30, H⟩ := H
 replace H : (precinctlaw12_GraphBack.l0 k l1 true t578 (t578.length : Int) 0 t577 t578) = some r := H
 have A3 := Aside0.mk A30
 clear A30
 have H' := Aside0.mk H
 clear H
 go_enter Try.func7, Try.ntmps7
 go_wp2_with (first | ((with_reducible refine gate_dst (N := 2) rfl ?_); refine box_event ?hg (N := 2) ?hd (cs := #[.string a0_0, .slice A0_1 l0_1.length c0_1]) (t := 24) ?hr ?_; (case hd => rfl); (case hg => rfl); (case hr => first | (go_simp; done) | (go_simp; rfl)); intro gb576 hg w4 hbox hb; have n0_ := Aside0.mk (below_step bb hb); have n1_ := Aside0.mk (hbox); have n2_ := Aside0.mk ((by rw [hg]; exact (below_size bb) : w.heap.size ≤ gb576)); have n3_ := Aside0.mk ((by rw [hg]; exact (below_size bb) : w.heap.size ≤ gb576)); clear HB; have HB := n0_; have BK576 := n1_; have GW576 := n2_; have GE576 := n3_; clear n0_ n1_ n2_ n3_; clear hb hbox hg; have hcz5_0 : w4.cell? ⟨gb576, 0, none⟩ = some (.string a0_0) := (blk_cell BK576.out 0).trans rfl; have hcz5_1 : w4.cell? ⟨gb576, 1, none⟩ = some (.slice A0_1 l0_1.length c0_1) := (blk_cell BK576.out 1).trans rfl; have hfz5_0 := blk_frozen BK576.out 0; have hfz5_1 := blk_frozen BK576.out 1) | ((with_reducible refine gate_callee (f := 14) rfl ?_); refine goesL_ (some 18) rfl rfl Try.func14 (by kernel_rfl) rfl #[.agg #[.string a0_0, .slice A0_1 l0_1.length c0_1]] rfl ag ?_; (with_reducible refine (precinctlaw12_flows.calls a0_0 _ _ l0_1 t577 t578 t581 t582 _ ?side1 ?side2 A3.out).mono ?_); (case side1 => repeat (first | exact (Kd.C_below HR0_1.out HB.out) | (with_reducible refine Kd.C_alloc ?_ _) | (with_reducible refine Kd.C_drewN ?_ _) | (with_reducible refine Kd.C_drew ?_))); (case side2 => exact HC0_1.out); rintro e w6 ⟨v579, v583, rfl, ho0, ho1, hb⟩; refine ⟨_, rfl, ?_⟩; have n0_ := Aside0.mk (Kd.N_lower (Kd.N_mono (ok' := fun k_ => some k_ ≠ (v583 : Value).ownBlock ∧ k_ ≠ gb576) (Kd.S_N (Kd.S_bound (Kd.S_apart' ho0 (Kd.S_typed ho1) (by decide)))) (fun k_ hk_ => ⟨hk_.1.2, (Kd.freshB (rb BK576.out) k_ hk_.2.1)⟩)) (below_size bb)); have n1_ := Aside0.mk (Kd.N_lower (Kd.N_mono (ok' := fun k_ => some k_ ≠ (v579 : Value).ownBlock ∧ k_ ≠ gb576) (Kd.S_N (Kd.S_bound (Kd.S_apart' ho1 (Kd.S_typed ho0) (by decide)))) (fun k_ hk_ => ⟨hk_.1.2, (Kd.freshB (rb BK576.out) k_ hk_.2.1)⟩)) (below_size bb)); have n2_ := Aside0.mk (blk_below (rb BK576.out) hb); have n3_ := Aside0.mk (below_step bb hb); clear BK576; clear HB; have HO580 := n0_; have HO584 := n1_; have BK576 := n2_; have HB := n3_; clear n0_ n1_ n2_ n3_; (try clear hb); (try clear hb2); (try clear hk); (try clear hi); (try clear ho0); (try clear ho1)) | ((with_reducible refine gate_dst (N := 5) rfl ?_); refine box_event ?hg (N := 5) ?hd (cs := #[.string (⟨#[]⟩ : ByteArray), .slice none 0 0]) (t := 27) ?hr ?_; (case hd => rfl); (case hg => rfl); (case hr => first | (go_simp; done) | (go_simp; rfl)); intro gb585 hg w7 hbox hb; have n0_ := Aside0.mk (Kd.N_below (Kd.N_elderB (kN HO580.out) gb585 (Nat.le_of_eq hg.symm)) hb); have n1_ := Aside0.mk (Kd.N_below (Kd.N_elderB (kN HO584.out) gb585 (Nat.le_of_eq hg.symm)) hb); have n2_ := Aside0.mk (blk_below (rb BK576.out) hb); have n3_ := Aside0.mk (below_step bb hb); have n4_ := Aside0.mk (hbox); have n5_ := Aside0.mk ((by rw [hg]; exact (below_size bb) : w.heap.size ≤ gb585)); have n6_ := Aside0.mk ((by rw [hg]; exact (below_size bb) : w.heap.size ≤ gb585)); have n7_ := Aside0.mk ((by rw [hg]; exact Nat.ne_of_lt (blk_lt (rb BK576.out)) : gb576 ≠ gb585)); have n8_ := Aside0.mk ((by rw [hg]; exact Nat.ne_of_gt (blk_lt (rb BK576.out)) : gb585 ≠ gb576)); clear HO580; clear HO584; clear BK576; clear HB; have HO580 := n0_; have HO584 := n1_; have BK576 := n2_; have HB := n3_; have BK585 := n4_; have GW585 := n5_; have GE585 := n6_; have NB576_585 := n7_; have NB585_576 := n8_; clear n0_ n1_ n2_ n3_ n4_ n5_ n6_ n7_ n8_; clear hb hbox hg) | ((with_reducible refine gate_dst (N := 6) rfl ?_); refine box_event ?hg (N := 6) ?hd (cs := #[.string (⟨#[]⟩ : ByteArray), .slice none 0 0]) (t := 30) ?hr ?_; (case hd => rfl); (case hg => rfl); (case hr => first | (go_simp; done) | (go_simp; rfl)); intro gb586 hg w8 hbox hb; have n0_ := Aside0.mk (Kd.N_below (Kd.N_elderB (kN HO580.out) gb586 (Nat.le_of_eq hg.symm)) hb); have n1_ := Aside0.mk (Kd.N_below (Kd.N_elderB (kN HO584.out) gb586 (Nat.le_of_eq hg.symm)) hb); have n2_ := Aside0.mk (blk_below (rb BK576.out) hb); have n3_ := Aside0.mk (blk_below (g := gb585) (o := .cells #[.string (⟨#[]⟩ : ByteArray), .slice none 0 0] 27 (0, 0)) (rb BK585.out) hb); have n4_ := Aside0.mk (below_step bb hb); have n5_ := Aside0.mk (hbox); have n6_ := Aside0.mk ((by rw [hg]; exact (below_size bb) : w.heap.size ≤ gb586)); have n7_ := Aside0.mk ((by rw [hg]; exact (below_size bb) : w.heap.size ≤ gb586)); have n8_ := Aside0.mk ((by rw [hg]; exact Nat.ne_of_lt (blk_lt (rb BK576.out)) : gb576 ≠ gb586)); have n9_ := Aside0.mk ((by rw [hg]; exact Nat.ne_of_gt (blk_lt (rb BK576.out)) : gb586 ≠ gb576)); have n10_ := Aside0.mk ((by rw [hg]; exact Nat.ne_of_lt (blk_lt (g := gb585) (o := .cells #[.string (⟨#[]⟩ : ByteArray), .slice none 0 0] 27 (0, 0)) (rb BK585.out)) : gb585 ≠ gb586)); have n11_ := Aside0.mk ((by rw [hg]; exact Nat.ne_of_gt (blk_lt (g := gb585) (o := .cells #[.string (⟨#[]⟩ : ByteArray), .slice none 0 0] 27 (0, 0)) (rb BK585.out)) : gb586 ≠ gb585)); clear HO580; clear HO584; clear BK576; clear BK585; clear HB; have HO580 := n0_; have HO584 := n1_; have BK576 := n2_; have BK585 := n3_; have HB := n4_; have BK586 := n5_; have GW586 := n6_; have GE586 := n7_; have NB576_586 := n8_; have NB586_576 := n9_; have NB585_586 := n10_; have NB586_585 := n11_; clear n0_ n1_ n2_ n3_ n4_ n5_ n6_ n7_ n8_ n9_ n10_ n11_; clear hb hbox hg; have hnb9 := NB585_576.out; have hnc9 := NB576_585.out; have hnb10 := NB585_586.out; have hnc10 := NB586_585.out; have hcz11_0 : w8.cell? ⟨gb585, 0, none⟩ = some (.string (⟨#[]⟩ : ByteArray)) := (blk_cell BK585.out 0).trans rfl; have hcz11_1 : w8.cell? ⟨gb585, 1, none⟩ = some (.slice none 0 0) := (blk_cell BK585.out 1).trans rfl; have hfz11_0 := blk_frozen BK585.out 0; have hfz11_1 := blk_frozen BK585.out 1; obtain ⟨Ao12, co12, eo12⟩ := Kd.N_slice HO580.out; subst eo12; have hnb13 := NB586_576.out; have hnc13 := NB576_586.out; have hcz14_0 : w8.cell? ⟨gb586, 0, none⟩ = some (.string (⟨#[]⟩ : ByteArray)) := (blk_cell BK586.out 0).trans rfl; have hcz14_1 : w8.cell? ⟨gb586, 1, none⟩ = some (.slice none 0 0) := (blk_cell BK586.out 1).trans rfl; have hfz14_0 := blk_frozen BK586.out 0; have hfz14_1 := blk_frozen BK586.out 1; obtain ⟨Ao15, co15, eo15⟩ := Kd.N_slice HO584.out; subst eo15))
 go_loopg [7, 24] k (fun kq v7 v24 w' => ∃ (x7_1 : Bool) (x24_1 : Int), v7 = .bool x7_1 ∧ v24 = .int .i64 x24_1 ∧ Aside0 (precinctlaw12_GraphBack.l0 kq l1 x7_1 t578 (t578.length : Int) x24_1 t577 t578 = some r) ∧ Aside0 (kq ≤ k) ∧ Aside0 (Kd.N k48 48 w' w.heap.size (fun k_ => some k_ ≠ ((.slice Ao15 t582.length co15) : Value).ownBlock ∧ k_ ≠ gb576 ∧ k_ ≠ gb585 ∧ k_ ≠ gb586) (.slice Ao12 t578.length co12) t578) ∧ Aside0 (Kd.N k48 48 w' w.heap.size (fun k_ => some k_ ≠ ((.slice Ao15 t582.length co15) : Value).ownBlock ∧ k_ ≠ gb576 ∧ k_ ≠ gb585 ∧ k_ ≠ gb586) (.slice Ao12 t578.length co12) t578) ∧ Aside0 (Kd.N k125 125 w' w.heap.size (fun k_ => some k_ ≠ ((.slice Ao12 t578.length co12) : Value).ownBlock ∧ some k_ ≠ ((.slice Ao12 t578.length co12) : Value).ownBlock ∧ k_ ≠ gb576 ∧ k_ ≠ gb585 ∧ k_ ≠ gb586) (.slice Ao15 t582.length co15) t582) ∧ Aside0 (w'.heap[gb576]? = some (.cells #[.string a0_0, (.slice A0_1 l0_1.length c0_1)] 24 (0, 0))) ∧ Aside0 (w'.heap[gb585]? = some (.cells #[.string t577, (.slice Ao12 t578.length co12)] 27 (0, 0))) ∧ Aside0 (w'.heap[gb586]? = some (.cells #[.string t581, (.slice Ao15 t582.length co15)] 30 (0, 0))) ∧ Aside0 (Below w.heap.size w w'))
 case atStart => exact ⟨(true), (0), (by first | rfl | (simp; done) | (simp [*]; done)), (by first | rfl | (simp; done) | (simp [*]; done)), H', ⟨Nat.le_refl _⟩, ⟨kN (Kd.N_mono (Kd.N_far (p := ⟨gb586, 1, none⟩) (Kd.N_far (p := ⟨gb586, 0, none⟩) (Kd.N_far (p := ⟨gb585, 1, none⟩) (Kd.N_far (p := ⟨gb585, 0, none⟩) (Kd.N_mono (Kd.N_mono HO580.out (fun k_ hk => (⟨hk, hk.1.2⟩ : _ ∧ k_ ≠ gb585))) (fun k_ hk => (⟨hk, hk.1.2⟩ : _ ∧ k_ ≠ gb586))) (fun _ hk => hk.1.2) (.string t577)) (fun _ hk => hk.1.2) (.slice Ao12 t578.length co12)) (fun _ hk => hk.2) (.string t581)) (fun _ hk => hk.2) (.slice Ao15 t582.length co15)) (fun _ hk => ⟨hk.1.1.1.1.1, ⟨hk.1.1.1.1.2, ⟨hk.1.1.1.2, hk.1.1.2⟩⟩⟩))⟩, ⟨kN (Kd.N_mono (Kd.N_far (p := ⟨gb586, 1, none⟩) (Kd.N_far (p := ⟨gb586, 0, none⟩) (Kd.N_far (p := ⟨gb585, 1, none⟩) (Kd.N_far (p := ⟨gb585, 0, none⟩) (Kd.N_mono (Kd.N_mono HO580.out (fun k_ hk => (⟨hk, hk.1.2⟩ : _ ∧ k_ ≠ gb585))) (fun k_ hk => (⟨hk, hk.1.2⟩ : _ ∧ k_ ≠ gb586))) (fun _ hk => hk.1.2) (.string t577)) (fun _ hk => hk.1.2) (.slice Ao12 t578.length co12)) (fun _ hk => hk.2) (.string t581)) (fun _ hk => hk.2) (.slice Ao15 t582.length co15)) (fun _ hk => ⟨hk.1.1.1.1.1, ⟨hk.1.1.1.1.2, ⟨hk.1.1.1.2, hk.1.1.2⟩⟩⟩))⟩, ⟨kN (Kd.N_mono (Kd.N_far (p := ⟨gb586, 1, none⟩) (Kd.N_far (p := ⟨gb586, 0, none⟩) (Kd.N_far (p := ⟨gb585, 1, none⟩) (Kd.N_far (p := ⟨gb585, 0, none⟩) (Kd.N_mono (Kd.N_mono HO584.out (fun k_ hk => (⟨hk, hk.1.2⟩ : _ ∧ k_ ≠ gb585))) (fun k_ hk => (⟨hk, hk.1.2⟩ : _ ∧ k_ ≠ gb586))) (fun _ hk => hk.1.2) (.string t577)) (fun _ hk => hk.1.2) (.slice Ao12 t578.length co12)) (fun _ hk => hk.2) (.string t581)) (fun _ hk => hk.2) (.slice Ao15 t582.length co15)) (fun _ hk => ⟨hk.1.1.1.1.1, ⟨hk.1.1.1.1.1, ⟨hk.1.1.1.1.2, ⟨hk.1.1.1.2, hk.1.1.2⟩⟩⟩⟩))⟩, ⟨by (with_reducible repeat (first | refine blk_drewN ?_ _ | refine blk_drew ?_ | refine blk_alloc ?_ _)); refine blk_far ?_ NB576_586.out _; (with_reducible repeat (first | refine blk_drewN ?_ _ | refine blk_drew ?_ | refine blk_alloc ?_ _)); refine blk_far ?_ NB576_586.out _; (with_reducible repeat (first | refine blk_drewN ?_ _ | refine blk_drew ?_ | refine blk_alloc ?_ _)); refine blk_far ?_ NB576_585.out _; (with_reducible repeat (first | refine blk_drewN ?_ _ | refine blk_drew ?_ | refine blk_alloc ?_ _)); refine blk_far ?_ NB576_585.out _; (with_reducible repeat (first | refine blk_drewN ?_ _ | refine blk_drew ?_ | refine blk_alloc ?_ _)); exact BK576.out⟩, ⟨by (with_reducible repeat (first | refine blk_drewN ?_ _ | refine blk_drew ?_ | refine blk_alloc ?_ _)); refine blk_far ?_ NB585_586.out _; (with_reducible repeat (first | refine blk_drewN ?_ _ | refine blk_drew ?_ | refine blk_alloc ?_ _)); refine blk_far ?_ NB585_586.out _; (with_reducible repeat (first | refine blk_drewN ?_ _ | refine blk_drew ?_ | refine blk_alloc ?_ _)); refine blk_put (cs := #[.string t577, .slice none 0 0]) ?_ 1 _ rfl; (with_reducible repeat (first | refine blk_drewN ?_ _ | refine blk_drew ?_ | refine blk_alloc ?_ _)); refine blk_put (cs := #[.string (⟨#[]⟩ : ByteArray), .slice none 0 0]) ?_ 0 _ rfl; (with_reducible repeat (first | refine blk_drewN ?_ _ | refine blk_drew ?_ | refine blk_alloc ?_ _)); exact BK585.out⟩, ⟨by (with_reducible repeat (first | refine blk_drewN ?_ _ | refine blk_drew ?_ | refine blk_alloc ?_ _)); refine blk_put (cs := #[.string t581, .slice none 0 0]) ?_ 1 _ rfl; (with_reducible repeat (first | refine blk_drewN ?_ _ | refine blk_drew ?_ | refine blk_alloc ?_ _)); refine blk_put (cs := #[.string (⟨#[]⟩ : ByteArray), .slice none 0 0]) ?_ 0 _ rfl; (with_reducible repeat (first | refine blk_drewN ?_ _ | refine blk_drew ?_ | refine blk_alloc ?_ _)); refine blk_far ?_ NB586_585.out _; (with_reducible repeat (first | refine blk_drewN ?_ _ | refine blk_drew ?_ | refine blk_alloc ?_ _)); refine blk_far ?_ NB586_585.out _; (with_reducible repeat (first | refine blk_drewN ?_ _ | refine blk_drew ?_ | refine blk_alloc ?_ _)); exact BK586.out⟩, ⟨bb⟩⟩
 case round =>
  clear H'
  try clear c1
  try clear p2
  try clear c7
  try clear c9
  try clear c10
  try clear c13
  try clear c14
  try clear hcz11_0
  try clear hcz11_1
  try clear hcz14_0
  try clear hcz14_1
  try clear hcz5_0
  try clear hcz5_1
  try clear hfz11_0
  try clear hfz11_1
  try clear hfz14_0
  try clear hfz14_1
  try clear hfz5_0
  try clear hfz5_1
  obtain ⟨x7_1, x24_1, rfl, rfl, HA, HK1, HO_22, HO_586001, HO_587001, BK576, BK585, BK586, HB⟩ := hrel
  cases gk with
  | zero => exact absurd HA.out (by simp [precinctlaw12_GraphBack.l0])
  | succ k1 =>
   have H := HA.out
   clear HA
   simp only [precinctlaw12_GraphBack.l0] at H
   by_cases c16 : x24_1 < (t578.length : Int)
   ·rw [if_pos c16] at H
    have c16b0 : decide (x24_1 < (t578.length : Int)) = true := decide_eq_true c16
    clear c16
    by_cases c17 : 0 ≤ x24_1
    ·rw [if_pos c17] at H
     have c17b0 : decide (0 ≤ x24_1) = true := decide_eq_true c17
     clear c17
     by_cases c18 : x24_1 < (t578.length : Int)
     ·rw [if_pos c18] at H
      have c18b0 : decide (x24_1 < (t578.length : Int)) = true := decide_eq_true c18
      clear c18
      by_cases c19 : x7_1 = true
      ·subst c19
       have H1 : (if ((rd_T48 t578 x24_1).f2) = (wrap64 (wrap32 ((rd_T48 t578 x24_1).f2))) then (precinctlaw12_GraphBack.l0 k1 l1 (((rd_T48 t578 x24_1).f4) == (wrap64 (wrap32 ((rd_T48 t578 x24_1).f4)))) t578 (t578.length : Int) (wrap64 (x24_1 + 1)) t577 t578) else (precinctlaw12_GraphBack.l0 k1 l1 false t578 (t578.length : Int) (wrap64 (x24_1 + 1)) t577 t578)) = some r := by rw [if_pos rfl] at H; exact H
       clear H
       have H := H1
       clear H1
       by_cases c20 : ((rd_T48 t578 x24_1).f2) = (wrap64 (wrap32 ((rd_T48 t578 x24_1).f2)))
       ·rw [if_pos c20] at H
        have c20b0 : (((rd_T48 t578 x24_1).f2) == (wrap64 (wrap32 ((rd_T48 t578 x24_1).f2)))) = true := beq_iff_eq.mpr c20
        have c20b1 : (((rd_T48 t578 x24_1).f2) != (wrap64 (wrap32 ((rd_T48 t578 x24_1).f2)))) = false := bne_eq_false_iff_eq.mpr c20
        clear c20
        have H' := Aside0.mk H
        clear H
        have p587 : 0 ≤ (x24_1 : Int) := of_decide_eq_true (by first | (with_reducible assumption) | assumption)
        have q587 : x24_1 < (t578.length : Int) := of_decide_eq_true (by first | (with_reducible assumption) | assumption)
        obtain ⟨ad587, A587_1, c587_1, e587, hx587_0, hx587_1, hx587_2, hx587_3, hx587_4, hx587_5, hl587_1, hi587_1⟩ := at_T48 (Kd.N_reads' HO_22.out).2.2 x24_1 p587 q587
        cases e587
        obtain ⟨ce587, hce587, hMe587, hcc587⟩ := Kd.N_get HO_22.out z48 x24_1 p587 (by first | exact q587 | exact of_decide_eq_true (by first | (with_reducible assumption) | assumption) | (have e_ := (Kd.N_reads' HO_22.out).1; omega))
        obtain ⟨ua587_1, uc587_1, rfl, ul587_1, ge587_1⟩ := k48_openF hMe587
        have hv587_1 := hcc587 1 _ rfl
        rw [add_field _ _ 1 (by omega)] at hv587_1
        replace hv587_1 := Option.some.inj (hv587_1.symm.trans hx587_1)
        injection hv587_1 with hva_ hvn_ hvc_
        rw [hva_] at ge587_1
        rw [hvc_] at ul587_1
        have HL587_1 := Aside0.mk (show Kd.V Kd.string 9 _ w.heap.size _ _ ((rd_T48 t578 x24_1).f1) from Kd.V_mk ul587_1 ge587_1)
        clear hva_ hvn_ hvc_ ge587_1 ul587_1
        clear hcc587 hce587
        have HR587_1 := Aside0.mk hi587_1
        have HC587_1 := Aside0.mk hl587_1
        clear hi587_1 hl587_1
        replace p587 := eq_true p587
        replace q587 := eq_true q587
        go_wp2_with (first | ((with_reducible refine gate_dst (N := 9) rfl ?_); refine box_event ?hg (N := 9) ?hd (cs := #[.string (⟨#[]⟩ : ByteArray), .slice none 0 0, .int .i64 0, .int .i64 0, .int .i64 0, .string (⟨#[]⟩ : ByteArray)]) (t := 48) ?hr ?_; (case hd => rfl); (case hg => rfl); (case hr => first | (go_simp; done) | (go_simp; rfl)); intro gb588 hg w21 hbox hb; have n0_ := Aside0.mk (Kd.N_below (Kd.N_elderB (kN HO_22.out) gb588 (Nat.le_of_eq hg.symm)) hb); have n1_ := Aside0.mk (Kd.N_below (Kd.N_elderB (kN HO_586001.out) gb588 (Nat.le_of_eq hg.symm)) hb); have n2_ := Aside0.mk (Kd.N_below (Kd.N_elderB (kN HO_587001.out) gb588 (Nat.le_of_eq hg.symm)) hb); have n3_ := Aside0.mk (Kd.V_below (Kd.V_elderB (by (with_reducible repeat (first | apply Kd.V_alloc | apply Kd.V_drewN | apply Kd.V_drew)); exact HL587_1.out) gb588 (Nat.le_of_eq hg.symm)) hb); have n4_ := Aside0.mk (blk_below (rb BK576.out) hb); have n5_ := Aside0.mk (blk_below (rb BK585.out) hb); have n6_ := Aside0.mk (blk_below (rb BK586.out) hb); have n7_ := Aside0.mk (Kd.C_below (by repeat (first | (with_reducible exact HR587_1.out) | (with_reducible refine Kd.C_alloc ?_ _) | (with_reducible refine Kd.C_drewN ?_ _) | (with_reducible refine Kd.C_drew ?_) | exact HR587_1.out)) hb); have n8_ := Aside0.mk (below_step bb hb); have n9_ := Aside0.mk (hbox); have n10_ := Aside0.mk ((by rw [hg]; exact (below_size bb) : w.heap.size ≤ gb588)); have n11_ := Aside0.mk ((by rw [hg]; exact (below_size bb) : w.heap.size ≤ gb588)); have n12_ := Aside0.mk ((by rw [hg]; exact Nat.ne_of_lt (blk_lt (rb BK576.out)) : gb576 ≠ gb588)); have n13_ := Aside0.mk ((by rw [hg]; exact Nat.ne_of_gt (blk_lt (rb BK576.out)) : gb588 ≠ gb576)); have n14_ := Aside0.mk ((by rw [hg]; exact Nat.ne_of_lt (blk_lt (rb BK585.out)) : gb585 ≠ gb588)); have n15_ := Aside0.mk ((by rw [hg]; exact Nat.ne_of_gt (blk_lt (rb BK585.out)) : gb588 ≠ gb585)); have n16_ := Aside0.mk ((by rw [hg]; exact Nat.ne_of_lt (blk_lt (rb BK586.out)) : gb586 ≠ gb588)); have n17_ := Aside0.mk ((by rw [hg]; exact Nat.ne_of_gt (blk_lt (rb BK586.out)) : gb588 ≠ gb586)); clear HO_22; clear HO_586001; clear HO_587001; clear HL587_1; clear BK576; clear BK585; clear BK586; clear HR587_1; clear HB; have HO_22 := n0_; have HO_586001 := n1_; have HO_587001 := n2_; have HL587_1 := n3_; have BK576 := n4_; have BK585 := n5_; have BK586 := n6_; have HR587_1 := n7_; have HB := n8_; have BK588 := n9_; have GW588 := n10_; have GE588 := n11_; have NB576_588 := n12_; have NB588_576 := n13_; have NB585_588 := n14_; have NB588_585 := n15_; have NB586_588 := n16_; have NB588_586 := n17_; clear n0_ n1_ n2_ n3_ n4_ n5_ n6_ n7_ n8_ n9_ n10_ n11_ n12_ n13_ n14_ n15_ n16_ n17_; clear hb hbox hg; have hnb22 := NB588_576.out; have hnc22 := NB576_588.out; have hnb23 := NB588_585.out; have hnc23 := NB585_588.out; have hnb24 := NB588_586.out; have hnc24 := NB586_588.out; have hcz25_0 : w21.cell? ⟨gb588, 0, none⟩ = some (.string (⟨#[]⟩ : ByteArray)) := (blk_cell BK588.out 0).trans rfl; have hcz25_1 : w21.cell? ⟨gb588, 1, none⟩ = some (.slice none 0 0) := (blk_cell BK588.out 1).trans rfl; have hcz25_2 : w21.cell? ⟨gb588, 2, none⟩ = some (.int .i64 0) := (blk_cell BK588.out 2).trans rfl; have hcz25_3 : w21.cell? ⟨gb588, 3, none⟩ = some (.int .i64 0) := (blk_cell BK588.out 3).trans rfl; have hcz25_4 : w21.cell? ⟨gb588, 4, none⟩ = some (.int .i64 0) := (blk_cell BK588.out 4).trans rfl; have hcz25_5 : w21.cell? ⟨gb588, 5, none⟩ = some (.string (⟨#[]⟩ : ByteArray)) := (blk_cell BK588.out 5).trans rfl; have hfz25_0 := blk_frozen BK588.out 0; have hfz25_1 := blk_frozen BK588.out 1; have hfz25_2 := blk_frozen BK588.out 2; have hfz25_3 := blk_frozen BK588.out 3; have hfz25_4 := blk_frozen BK588.out 4; have hfz25_5 := blk_frozen BK588.out 5))
        go_roundg k1
        case measure => have := HK1.out; omega
        case rel => exact ⟨((((rd_T48 t578 x24_1).f4) == (wrap64 (wrap32 ((rd_T48 t578 x24_1).f4))))), (wrap64 (x24_1 + 1)), (by first | rfl | (simp; done) | (simp [*]; done)), (by first | rfl | (simp; done) | (simp [*]; done)), H', ⟨by have := HK1.out; omega⟩, ⟨kN (Kd.N_mono (Kd.N_far (p := ⟨gb588, 5, none⟩) (Kd.N_far (p := ⟨gb588, 4, none⟩) (Kd.N_far (p := ⟨gb588, 3, none⟩) (Kd.N_far (p := ⟨gb588, 2, none⟩) (Kd.N_far (p := ⟨gb588, 1, none⟩) (Kd.N_far (p := ⟨gb588, 0, none⟩) (Kd.N_mono HO_22.out (fun k_ hk => (⟨hk, hk.2⟩ : _ ∧ k_ ≠ gb588))) (fun _ hk => hk.2) (.string ((rd_T48 t578 x24_1).f0))) (fun _ hk => hk.2) (.slice A587_1 ((rd_T48 t578 x24_1).f1).length c587_1)) (fun _ hk => hk.2) (.int .i64 ((rd_T48 t578 x24_1).f2))) (fun _ hk => hk.2) (.int .i64 ((rd_T48 t578 x24_1).f3))) (fun _ hk => hk.2) (.int .i64 ((rd_T48 t578 x24_1).f4))) (fun _ hk => hk.2) (.string ((rd_T48 t578 x24_1).f5))) (fun _ hk => ⟨hk.1.1.1, ⟨hk.1.1.2.1, ⟨hk.1.1.2.2.1, hk.1.1.2.2.2⟩⟩⟩))⟩, ⟨kN (Kd.N_mono (Kd.N_far (p := ⟨gb588, 5, none⟩) (Kd.N_far (p := ⟨gb588, 4, none⟩) (Kd.N_far (p := ⟨gb588, 3, none⟩) (Kd.N_far (p := ⟨gb588, 2, none⟩) (Kd.N_far (p := ⟨gb588, 1, none⟩) (Kd.N_far (p := ⟨gb588, 0, none⟩) (Kd.N_mono HO_586001.out (fun k_ hk => (⟨hk, hk.2⟩ : _ ∧ k_ ≠ gb588))) (fun _ hk => hk.2) (.string ((rd_T48 t578 x24_1).f0))) (fun _ hk => hk.2) (.slice A587_1 ((rd_T48 t578 x24_1).f1).length c587_1)) (fun _ hk => hk.2) (.int .i64 ((rd_T48 t578 x24_1).f2))) (fun _ hk => hk.2) (.int .i64 ((rd_T48 t578 x24_1).f3))) (fun _ hk => hk.2) (.int .i64 ((rd_T48 t578 x24_1).f4))) (fun _ hk => hk.2) (.string ((rd_T48 t578 x24_1).f5))) (fun _ hk => ⟨hk.1.1.1, ⟨hk.1.1.2.1, ⟨hk.1.1.2.2.1, hk.1.1.2.2.2⟩⟩⟩))⟩, ⟨kN (Kd.N_mono (Kd.N_far (p := ⟨gb588, 5, none⟩) (Kd.N_far (p := ⟨gb588, 4, none⟩) (Kd.N_far (p := ⟨gb588, 3, none⟩) (Kd.N_far (p := ⟨gb588, 2, none⟩) (Kd.N_far (p := ⟨gb588, 1, none⟩) (Kd.N_far (p := ⟨gb588, 0, none⟩) (Kd.N_mono HO_587001.out (fun k_ hk => (⟨hk, hk.2⟩ : _ ∧ k_ ≠ gb588))) (fun _ hk => hk.2) (.string ((rd_T48 t578 x24_1).f0))) (fun _ hk => hk.2) (.slice A587_1 ((rd_T48 t578 x24_1).f1).length c587_1)) (fun _ hk => hk.2) (.int .i64 ((rd_T48 t578 x24_1).f2))) (fun _ hk => hk.2) (.int .i64 ((rd_T48 t578 x24_1).f3))) (fun _ hk => hk.2) (.int .i64 ((rd_T48 t578 x24_1).f4))) (fun _ hk => hk.2) (.string ((rd_T48 t578 x24_1).f5))) (fun _ hk => ⟨hk.1.1.1, ⟨hk.1.1.2.1, ⟨hk.1.1.2.2.1, ⟨hk.1.1.2.2.2.1, hk.1.1.2.2.2.2⟩⟩⟩⟩))⟩, ⟨by (with_reducible repeat (first | refine blk_drewN ?_ _ | refine blk_drew ?_ | refine blk_alloc ?_ _)); refine blk_far ?_ NB576_588.out _; (with_reducible repeat (first | refine blk_drewN ?_ _ | refine blk_drew ?_ | refine blk_alloc ?_ _)); refine blk_far ?_ NB576_588.out _; (with_reducible repeat (first | refine blk_drewN ?_ _ | refine blk_drew ?_ | refine blk_alloc ?_ _)); refine blk_far ?_ NB576_588.out _; (with_reducible repeat (first | refine blk_drewN ?_ _ | refine blk_drew ?_ | refine blk_alloc ?_ _)); refine blk_far ?_ NB576_588.out _; (with_reducible repeat (first | refine blk_drewN ?_ _ | refine blk_drew ?_ | refine blk_alloc ?_ _)); refine blk_far ?_ NB576_588.out _; (with_reducible repeat (first | refine blk_drewN ?_ _ | refine blk_drew ?_ | refine blk_alloc ?_ _)); refine blk_far ?_ NB576_588.out _; (with_reducible repeat (first | refine blk_drewN ?_ _ | refine blk_drew ?_ | refine blk_alloc ?_ _)); exact BK576.out⟩, ⟨by (with_reducible repeat (first | refine blk_drewN ?_ _ | refine blk_drew ?_ | refine blk_alloc ?_ _)); refine blk_far ?_ NB585_588.out _; (with_reducible repeat (first | refine blk_drewN ?_ _ | refine blk_drew ?_ | refine blk_alloc ?_ _)); refine blk_far ?_ NB585_588.out _; (with_reducible repeat (first | refine blk_drewN ?_ _ | refine blk_drew ?_ | refine blk_alloc ?_ _)); refine blk_far ?_ NB585_588.out _; (with_reducible repeat (first | refine blk_drewN ?_ _ | refine blk_drew ?_ | refine blk_alloc ?_ _)); refine blk_far ?_ NB585_588.out _; (with_reducible repeat (first | refine blk_drewN ?_ _ | refine blk_drew ?_ | refine blk_alloc ?_ _)); refine blk_far ?_ NB585_588.out _; (with_reducible repeat (first | refine blk_drewN ?_ _ | refine blk_drew ?_ | refine blk_alloc ?_ _)); refine blk_far ?_ NB585_588.out _; (with_reducible repeat (first | refine blk_drewN ?_ _ | refine blk_drew ?_ | refine blk_alloc ?_ _)); exact BK585.out⟩, ⟨by (with_reducible repeat (first | refine blk_drewN ?_ _ | refine blk_drew ?_ | refine blk_alloc ?_ _)); refine blk_far ?_ NB586_588.out _; (with_reducible repeat (first | refine blk_drewN ?_ _ | refine blk_drew ?_ | refine blk_alloc ?_ _)); refine blk_far ?_ NB586_588.out _; (with_reducible repeat (first | refine blk_drewN ?_ _ | refine blk_drew ?_ | refine blk_alloc ?_ _)); refine blk_far ?_ NB586_588.out _; (with_reducible repeat (first | refine blk_drewN ?_ _ | refine blk_drew ?_ | refine blk_alloc ?_ _)); refine blk_far ?_ NB586_588.out _; (with_reducible repeat (first | refine blk_drewN ?_ _ | refine blk_drew ?_ | refine blk_alloc ?_ _)); refine blk_far ?_ NB586_588.out _; (with_reducible repeat (first | refine blk_drewN ?_ _ | refine blk_drew ?_ | refine blk_alloc ?_ _)); refine blk_far ?_ NB586_588.out _; (with_reducible repeat (first | refine blk_drewN ?_ _ | refine blk_drew ?_ | refine blk_alloc ?_ _)); exact BK586.out⟩, ⟨bb⟩⟩
       ·rw [if_neg c20] at H
        have c20b0 : (((rd_T48 t578 x24_1).f2) == (wrap64 (wrap32 ((rd_T48 t578 x24_1).f2)))) = false := beq_eq_false_iff_ne.mpr c20
        have c20b1 : (((rd_T48 t578 x24_1).f2) != (wrap64 (wrap32 ((rd_T48 t578 x24_1).f2)))) = true := bne_iff_ne.mpr c20
        have H' := Aside0.mk H
        clear H
        have p587 : 0 ≤ (x24_1 : Int) := of_decide_eq_true (by first | (with_reducible assumption) | assumption)
        have q587 : x24_1 < (t578.length : Int) := of_decide_eq_true (by first | (with_reducible assumption) | assumption)
        obtain ⟨ad587, A587_1, c587_1, e587, hx587_0, hx587_1, hx587_2, hx587_3, hx587_4, hx587_5, hl587_1, hi587_1⟩ := at_T48 (Kd.N_reads' HO_22.out).2.2 x24_1 p587 q587
        cases e587
        obtain ⟨ce587, hce587, hMe587, hcc587⟩ := Kd.N_get HO_22.out z48 x24_1 p587 (by first | exact q587 | exact of_decide_eq_true (by first | (with_reducible assumption) | assumption) | (have e_ := (Kd.N_reads' HO_22.out).1; omega))
        obtain ⟨ua587_1, uc587_1, rfl, ul587_1, ge587_1⟩ := k48_openF hMe587
        have hv587_1 := hcc587 1 _ rfl
        rw [add_field _ _ 1 (by omega)] at hv587_1
        replace hv587_1 := Option.some.inj (hv587_1.symm.trans hx587_1)
        injection hv587_1 with hva_ hvn_ hvc_
        rw [hva_] at ge587_1
        rw [hvc_] at ul587_1
        have HL587_1 := Aside0.mk (show Kd.V Kd.string 9 _ w.heap.size _ _ ((rd_T48 t578 x24_1).f1) from Kd.V_mk ul587_1 ge587_1)
        clear hva_ hvn_ hvc_ ge587_1 ul587_1
        clear hcc587 hce587
        have HR587_1 := Aside0.mk hi587_1
        have HC587_1 := Aside0.mk hl587_1
        clear hi587_1 hl587_1
        replace p587 := eq_true p587
        replace q587 := eq_true q587
        go_wp2_with (first | ((with_reducible refine gate_dst (N := 9) rfl ?_); refine box_event ?hg (N := 9) ?hd (cs := #[.string (⟨#[]⟩ : ByteArray), .slice none 0 0, .int .i64 0, .int .i64 0, .int .i64 0, .string (⟨#[]⟩ : ByteArray)]) (t := 48) ?hr ?_; (case hd => rfl); (case hg => rfl); (case hr => first | (go_simp; done) | (go_simp; rfl)); intro gb588 hg w26 hbox hb; have n0_ := Aside0.mk (Kd.N_below (Kd.N_elderB (kN HO_22.out) gb588 (Nat.le_of_eq hg.symm)) hb); have n1_ := Aside0.mk (Kd.N_below (Kd.N_elderB (kN HO_586001.out) gb588 (Nat.le_of_eq hg.symm)) hb); have n2_ := Aside0.mk (Kd.N_below (Kd.N_elderB (kN HO_587001.out) gb588 (Nat.le_of_eq hg.symm)) hb); have n3_ := Aside0.mk (Kd.V_below (Kd.V_elderB (by (with_reducible repeat (first | apply Kd.V_alloc | apply Kd.V_drewN | apply Kd.V_drew)); exact HL587_1.out) gb588 (Nat.le_of_eq hg.symm)) hb); have n4_ := Aside0.mk (blk_below (rb BK576.out) hb); have n5_ := Aside0.mk (blk_below (rb BK585.out) hb); have n6_ := Aside0.mk (blk_below (rb BK586.out) hb); have n7_ := Aside0.mk (Kd.C_below (by repeat (first | (with_reducible exact HR587_1.out) | (with_reducible refine Kd.C_alloc ?_ _) | (with_reducible refine Kd.C_drewN ?_ _) | (with_reducible refine Kd.C_drew ?_) | exact HR587_1.out)) hb); have n8_ := Aside0.mk (below_step bb hb); have n9_ := Aside0.mk (hbox); have n10_ := Aside0.mk ((by rw [hg]; exact (below_size bb) : w.heap.size ≤ gb588)); have n11_ := Aside0.mk ((by rw [hg]; exact (below_size bb) : w.heap.size ≤ gb588)); have n12_ := Aside0.mk ((by rw [hg]; exact Nat.ne_of_lt (blk_lt (rb BK576.out)) : gb576 ≠ gb588)); have n13_ := Aside0.mk ((by rw [hg]; exact Nat.ne_of_gt (blk_lt (rb BK576.out)) : gb588 ≠ gb576)); have n14_ := Aside0.mk ((by rw [hg]; exact Nat.ne_of_lt (blk_lt (rb BK585.out)) : gb585 ≠ gb588)); have n15_ := Aside0.mk ((by rw [hg]; exact Nat.ne_of_gt (blk_lt (rb BK585.out)) : gb588 ≠ gb585)); have n16_ := Aside0.mk ((by rw [hg]; exact Nat.ne_of_lt (blk_lt (rb BK586.out)) : gb586 ≠ gb588)); have n17_ := Aside0.mk ((by rw [hg]; exact Nat.ne_of_gt (blk_lt (rb BK586.out)) : gb588 ≠ gb586)); clear HO_22; clear HO_586001; clear HO_587001; clear HL587_1; clear BK576; clear BK585; clear BK586; clear HR587_1; clear HB; have HO_22 := n0_; have HO_586001 := n1_; have HO_587001 := n2_; have HL587_1 := n3_; have BK576 := n4_; have BK585 := n5_; have BK586 := n6_; have HR587_1 := n7_; have HB := n8_; have BK588 := n9_; have GW588 := n10_; have GE588 := n11_; have NB576_588 := n12_; have NB588_576 := n13_; have NB585_588 := n14_; have NB588_585 := n15_; have NB586_588 := n16_; have NB588_586 := n17_; clear n0_ n1_ n2_ n3_ n4_ n5_ n6_ n7_ n8_ n9_ n10_ n11_ n12_ n13_ n14_ n15_ n16_ n17_; clear hb hbox hg; have hnb27 := NB588_576.out; have hnc27 := NB576_588.out; have hnb28 := NB588_585.out; have hnc28 := NB585_588.out; have hnb29 := NB588_586.out; have hnc29 := NB586_588.out; have hcz30_0 : w26.cell? ⟨gb588, 0, none⟩ = some (.string (⟨#[]⟩ : ByteArray)) := (blk_cell BK588.out 0).trans rfl; have hcz30_1 : w26.cell? ⟨gb588, 1, none⟩ = some (.slice none 0 0) := (blk_cell BK588.out 1).trans rfl; have hcz30_2 : w26.cell? ⟨gb588, 2, none⟩ = some (.int .i64 0) := (blk_cell BK588.out 2).trans rfl; have hcz30_3 : w26.cell? ⟨gb588, 3, none⟩ = some (.int .i64 0) := (blk_cell BK588.out 3).trans rfl; have hcz30_4 : w26.cell? ⟨gb588, 4, none⟩ = some (.int .i64 0) := (blk_cell BK588.out 4).trans rfl; have hcz30_5 : w26.cell? ⟨gb588, 5, none⟩ = some (.string (⟨#[]⟩ : ByteArray)) := (blk_cell BK588.out 5).trans rfl; have hfz30_0 := blk_frozen BK588.out 0; have hfz30_1 := blk_frozen BK588.out 1; have hfz30_2 := blk_frozen BK588.out 2; have hfz30_3 := blk_frozen BK588.out 3; have hfz30_4 := blk_frozen BK588.out 4; have hfz30_5 := blk_frozen BK588.out 5))
        go_roundg k1
        case measure => have := HK1.out; omega
        case rel => exact ⟨(false), (wrap64 (x24_1 + 1)), (by first | rfl | (simp; done) | (simp [*]; done)), (by first | rfl | (simp; done) | (simp [*]; done)), H', ⟨by have := HK1.out; omega⟩, ⟨kN (Kd.N_mono (Kd.N_far (p := ⟨gb588, 5, none⟩) (Kd.N_far (p := ⟨gb588, 4, none⟩) (Kd.N_far (p := ⟨gb588, 3, none⟩) (Kd.N_far (p := ⟨gb588, 2, none⟩) (Kd.N_far (p := ⟨gb588, 1, none⟩) (Kd.N_far (p := ⟨gb588, 0, none⟩) (Kd.N_mono HO_22.out (fun k_ hk => (⟨hk, hk.2⟩ : _ ∧ k_ ≠ gb588))) (fun _ hk => hk.2) (.string ((rd_T48 t578 x24_1).f0))) (fun _ hk => hk.2) (.slice A587_1 ((rd_T48 t578 x24_1).f1).length c587_1)) (fun _ hk => hk.2) (.int .i64 ((rd_T48 t578 x24_1).f2))) (fun _ hk => hk.2) (.int .i64 ((rd_T48 t578 x24_1).f3))) (fun _ hk => hk.2) (.int .i64 ((rd_T48 t578 x24_1).f4))) (fun _ hk => hk.2) (.string ((rd_T48 t578 x24_1).f5))) (fun _ hk => ⟨hk.1.1.1, ⟨hk.1.1.2.1, ⟨hk.1.1.2.2.1, hk.1.1.2.2.2⟩⟩⟩))⟩, ⟨kN (Kd.N_mono (Kd.N_far (p := ⟨gb588, 5, none⟩) (Kd.N_far (p := ⟨gb588, 4, none⟩) (Kd.N_far (p := ⟨gb588, 3, none⟩) (Kd.N_far (p := ⟨gb588, 2, none⟩) (Kd.N_far (p := ⟨gb588, 1, none⟩) (Kd.N_far (p := ⟨gb588, 0, none⟩) (Kd.N_mono HO_586001.out (fun k_ hk => (⟨hk, hk.2⟩ : _ ∧ k_ ≠ gb588))) (fun _ hk => hk.2) (.string ((rd_T48 t578 x24_1).f0))) (fun _ hk => hk.2) (.slice A587_1 ((rd_T48 t578 x24_1).f1).length c587_1)) (fun _ hk => hk.2) (.int .i64 ((rd_T48 t578 x24_1).f2))) (fun _ hk => hk.2) (.int .i64 ((rd_T48 t578 x24_1).f3))) (fun _ hk => hk.2) (.int .i64 ((rd_T48 t578 x24_1).f4))) (fun _ hk => hk.2) (.string ((rd_T48 t578 x24_1).f5))) (fun _ hk => ⟨hk.1.1.1, ⟨hk.1.1.2.1, ⟨hk.1.1.2.2.1, hk.1.1.2.2.2⟩⟩⟩))⟩, ⟨kN (Kd.N_mono (Kd.N_far (p := ⟨gb588, 5, none⟩) (Kd.N_far (p := ⟨gb588, 4, none⟩) (Kd.N_far (p := ⟨gb588, 3, none⟩) (Kd.N_far (p := ⟨gb588, 2, none⟩) (Kd.N_far (p := ⟨gb588, 1, none⟩) (Kd.N_far (p := ⟨gb588, 0, none⟩) (Kd.N_mono HO_587001.out (fun k_ hk => (⟨hk, hk.2⟩ : _ ∧ k_ ≠ gb588))) (fun _ hk => hk.2) (.string ((rd_T48 t578 x24_1).f0))) (fun _ hk => hk.2) (.slice A587_1 ((rd_T48 t578 x24_1).f1).length c587_1)) (fun _ hk => hk.2) (.int .i64 ((rd_T48 t578 x24_1).f2))) (fun _ hk => hk.2) (.int .i64 ((rd_T48 t578 x24_1).f3))) (fun _ hk => hk.2) (.int .i64 ((rd_T48 t578 x24_1).f4))) (fun _ hk => hk.2) (.string ((rd_T48 t578 x24_1).f5))) (fun _ hk => ⟨hk.1.1.1, ⟨hk.1.1.2.1, ⟨hk.1.1.2.2.1, ⟨hk.1.1.2.2.2.1, hk.1.1.2.2.2.2⟩⟩⟩⟩))⟩, ⟨by (with_reducible repeat (first | refine blk_drewN ?_ _ | refine blk_drew ?_ | refine blk_alloc ?_ _)); refine blk_far ?_ NB576_588.out _; (with_reducible repeat (first | refine blk_drewN ?_ _ | refine blk_drew ?_ | refine blk_alloc ?_ _)); refine blk_far ?_ NB576_588.out _; (with_reducible repeat (first | refine blk_drewN ?_ _ | refine blk_drew ?_ | refine blk_alloc ?_ _)); refine blk_far ?_ NB576_588.out _; (with_reducible repeat (first | refine blk_drewN ?_ _ | refine blk_drew ?_ | refine blk_alloc ?_ _)); refine blk_far ?_ NB576_588.out _; (with_reducible repeat (first | refine blk_drewN ?_ _ | refine blk_drew ?_ | refine blk_alloc ?_ _)); refine blk_far ?_ NB576_588.out _; (with_reducible repeat (first | refine blk_drewN ?_ _ | refine blk_drew ?_ | refine blk_alloc ?_ _)); refine blk_far ?_ NB576_588.out _; (with_reducible repeat (first | refine blk_drewN ?_ _ | refine blk_drew ?_ | refine blk_alloc ?_ _)); exact BK576.out⟩, ⟨by (with_reducible repeat (first | refine blk_drewN ?_ _ | refine blk_drew ?_ | refine blk_alloc ?_ _)); refine blk_far ?_ NB585_588.out _; (with_reducible repeat (first | refine blk_drewN ?_ _ | refine blk_drew ?_ | refine blk_alloc ?_ _)); refine blk_far ?_ NB585_588.out _; (with_reducible repeat (first | refine blk_drewN ?_ _ | refine blk_drew ?_ | refine blk_alloc ?_ _)); refine blk_far ?_ NB585_588.out _; (with_reducible repeat (first | refine blk_drewN ?_ _ | refine blk_drew ?_ | refine blk_alloc ?_ _)); refine blk_far ?_ NB585_588.out _; (with_reducible repeat (first | refine blk_drewN ?_ _ | refine blk_drew ?_ | refine blk_alloc ?_ _)); refine blk_far ?_ NB585_588.out _; (with_reducible repeat (first | refine blk_drewN ?_ _ | refine blk_drew ?_ | refine blk_alloc ?_ _)); refine blk_far ?_ NB585_588.out _; (with_reducible repeat (first | refine blk_drewN ?_ _ | refine blk_drew ?_ | refine blk_alloc ?_ _)); exact BK585.out⟩, ⟨by (with_reducible repeat (first | refine blk_drewN ?_ _ | refine blk_drew ?_ | refine blk_alloc ?_ _)); refine blk_far ?_ NB586_588.out _; (with_reducible repeat (first | refine blk_drewN ?_ _ | refine blk_drew ?_ | refine blk_alloc ?_ _)); refine blk_far ?_ NB586_588.out _; (with_reducible repeat (first | refine blk_drewN ?_ _ | refine blk_drew ?_ | refine blk_alloc ?_ _)); refine blk_far ?_ NB586_588.out _; (with_reducible repeat (first | refine blk_drewN ?_ _ | refine blk_drew ?_ | refine blk_alloc ?_ _)); refine blk_far ?_ NB586_588.out _; (with_reducible repeat (first | refine blk_drewN ?_ _ | refine blk_drew ?_ | refine blk_alloc ?_ _)); refine blk_far ?_ NB586_588.out _; (with_reducible repeat (first | refine blk_drewN ?_ _ | refine blk_drew ?_ | refine blk_alloc ?_ _)); refine blk_far ?_ NB586_588.out _; (with_reducible repeat (first | refine blk_drewN ?_ _ | refine blk_drew ?_ | refine blk_alloc ?_ _)); exact BK586.out⟩, ⟨bb⟩⟩
      ·replace c19 := Bool.eq_false_iff.mpr c19
       subst c19
       have H1 : (precinctlaw12_GraphBack.l0 k1 l1 false t578 (t578.length : Int) (wrap64 (x24_1 + 1)) t577 t578) = some r := by rw [if_neg (show ¬ (false = true) by decide)] at H; exact H
       clear H
       have H := H1
       clear H1
       have H' := Aside0.mk H
       clear H
       have p587 : 0 ≤ (x24_1 : Int) := of_decide_eq_true (by first | (with_reducible assumption) | assumption)
       have q587 : x24_1 < (t578.length : Int) := of_decide_eq_true (by first | (with_reducible assumption) | assumption)
       obtain ⟨ad587, A587_1, c587_1, e587, hx587_0, hx587_1, hx587_2, hx587_3, hx587_4, hx587_5, hl587_1, hi587_1⟩ := at_T48 (Kd.N_reads' HO_22.out).2.2 x24_1 p587 q587
       cases e587
       obtain ⟨ce587, hce587, hMe587, hcc587⟩ := Kd.N_get HO_22.out z48 x24_1 p587 (by first | exact q587 | exact of_decide_eq_true (by first | (with_reducible assumption) | assumption) | (have e_ := (Kd.N_reads' HO_22.out).1; omega))
       obtain ⟨ua587_1, uc587_1, rfl, ul587_1, ge587_1⟩ := k48_openF hMe587
       have hv587_1 := hcc587 1 _ rfl
       rw [add_field _ _ 1 (by omega)] at hv587_1
       replace hv587_1 := Option.some.inj (hv587_1.symm.trans hx587_1)
       injection hv587_1 with hva_ hvn_ hvc_
       rw [hva_] at ge587_1
       rw [hvc_] at ul587_1
       have HL587_1 := Aside0.mk (show Kd.V Kd.string 9 _ w.heap.size _ _ ((rd_T48 t578 x24_1).f1) from Kd.V_mk ul587_1 ge587_1)
       clear hva_ hvn_ hvc_ ge587_1 ul587_1
       clear hcc587 hce587
       have HR587_1 := Aside0.mk hi587_1
       have HC587_1 := Aside0.mk hl587_1
       clear hi587_1 hl587_1
       replace p587 := eq_true p587
       replace q587 := eq_true q587
       go_wp2_with (first | ((with_reducible refine gate_dst (N := 9) rfl ?_); refine box_event ?hg (N := 9) ?hd (cs := #[.string (⟨#[]⟩ : ByteArray), .slice none 0 0, .int .i64 0, .int .i64 0, .int .i64 0, .string (⟨#[]⟩ : ByteArray)]) (t := 48) ?hr ?_; (case hd => rfl); (case hg => rfl); (case hr => first | (go_simp; done) | (go_simp; rfl)); intro gb588 hg w31 hbox hb; have n0_ := Aside0.mk (Kd.N_below (Kd.N_elderB (kN HO_22.out) gb588 (Nat.le_of_eq hg.symm)) hb); have n1_ := Aside0.mk (Kd.N_below (Kd.N_elderB (kN HO_586001.out) gb588 (Nat.le_of_eq hg.symm)) hb); have n2_ := Aside0.mk (Kd.N_below (Kd.N_elderB (kN HO_587001.out) gb588 (Nat.le_of_eq hg.symm)) hb); have n3_ := Aside0.mk (Kd.V_below (Kd.V_elderB (by (with_reducible repeat (first | apply Kd.V_alloc | apply Kd.V_drewN | apply Kd.V_drew)); exact HL587_1.out) gb588 (Nat.le_of_eq hg.symm)) hb); have n4_ := Aside0.mk (blk_below (rb BK576.out) hb); have n5_ := Aside0.mk (blk_below (rb BK585.out) hb); have n6_ := Aside0.mk (blk_below (rb BK586.out) hb); have n7_ := Aside0.mk (Kd.C_below (by repeat (first | (with_reducible exact HR587_1.out) | (with_reducible refine Kd.C_alloc ?_ _) | (with_reducible refine Kd.C_drewN ?_ _) | (with_reducible refine Kd.C_drew ?_) | exact HR587_1.out)) hb); have n8_ := Aside0.mk (below_step bb hb); have n9_ := Aside0.mk (hbox); have n10_ := Aside0.mk ((by rw [hg]; exact (below_size bb) : w.heap.size ≤ gb588)); have n11_ := Aside0.mk ((by rw [hg]; exact (below_size bb) : w.heap.size ≤ gb588)); have n12_ := Aside0.mk ((by rw [hg]; exact Nat.ne_of_lt (blk_lt (rb BK576.out)) : gb576 ≠ gb588)); have n13_ := Aside0.mk ((by rw [hg]; exact Nat.ne_of_gt (blk_lt (rb BK576.out)) : gb588 ≠ gb576)); have n14_ := Aside0.mk ((by rw [hg]; exact Nat.ne_of_lt (blk_lt (rb BK585.out)) : gb585 ≠ gb588)); have n15_ := Aside0.mk ((by rw [hg]; exact Nat.ne_of_gt (blk_lt (rb BK585.out)) : gb588 ≠ gb585)); have n16_ := Aside0.mk ((by rw [hg]; exact Nat.ne_of_lt (blk_lt (rb BK586.out)) : gb586 ≠ gb588)); have n17_ := Aside0.mk ((by rw [hg]; exact Nat.ne_of_gt (blk_lt (rb BK586.out)) : gb588 ≠ gb586)); clear HO_22; clear HO_586001; clear HO_587001; clear HL587_1; clear BK576; clear BK585; clear BK586; clear HR587_1; clear HB; have HO_22 := n0_; have HO_586001 := n1_; have HO_587001 := n2_; have HL587_1 := n3_; have BK576 := n4_; have BK585 := n5_; have BK586 := n6_; have HR587_1 := n7_; have HB := n8_; have BK588 := n9_; have GW588 := n10_; have GE588 := n11_; have NB576_588 := n12_; have NB588_576 := n13_; have NB585_588 := n14_; have NB588_585 := n15_; have NB586_588 := n16_; have NB588_586 := n17_; clear n0_ n1_ n2_ n3_ n4_ n5_ n6_ n7_ n8_ n9_ n10_ n11_ n12_ n13_ n14_ n15_ n16_ n17_; clear hb hbox hg; have hnb32 := NB588_576.out; have hnc32 := NB576_588.out; have hnb33 := NB588_585.out; have hnc33 := NB585_588.out; have hnb34 := NB588_586.out; have hnc34 := NB586_588.out; have hcz35_0 : w31.cell? ⟨gb588, 0, none⟩ = some (.string (⟨#[]⟩ : ByteArray)) := (blk_cell BK588.out 0).trans rfl; have hcz35_1 : w31.cell? ⟨gb588, 1, none⟩ = some (.slice none 0 0) := (blk_cell BK588.out 1).trans rfl; have hcz35_2 : w31.cell? ⟨gb588, 2, none⟩ = some (.int .i64 0) := (blk_cell BK588.out 2).trans rfl; have hcz35_3 : w31.cell? ⟨gb588, 3, none⟩ = some (.int .i64 0) := (blk_cell BK588.out 3).trans rfl; have hcz35_4 : w31.cell? ⟨gb588, 4, none⟩ = some (.int .i64 0) := (blk_cell BK588.out 4).trans rfl; have hcz35_5 : w31.cell? ⟨gb588, 5, none⟩ = some (.string (⟨#[]⟩ : ByteArray)) := (blk_cell BK588.out 5).trans rfl; have hfz35_0 := blk_frozen BK588.out 0; have hfz35_1 := blk_frozen BK588.out 1; have hfz35_2 := blk_frozen BK588.out 2; have hfz35_3 := blk_frozen BK588.out 3; have hfz35_4 := blk_frozen BK588.out 4; have hfz35_5 := blk_frozen BK588.out 5))
       go_roundg k1
       case measure => have := HK1.out; omega
       case rel => exact ⟨(false), (wrap64 (x24_1 + 1)), (by first | rfl | (simp; done) | (simp [*]; done)), (by first | rfl | (simp; done) | (simp [*]; done)), H', ⟨by have := HK1.out; omega⟩, ⟨kN (Kd.N_mono (Kd.N_far (p := ⟨gb588, 5, none⟩) (Kd.N_far (p := ⟨gb588, 4, none⟩) (Kd.N_far (p := ⟨gb588, 3, none⟩) (Kd.N_far (p := ⟨gb588, 2, none⟩) (Kd.N_far (p := ⟨gb588, 1, none⟩) (Kd.N_far (p := ⟨gb588, 0, none⟩) (Kd.N_mono HO_22.out (fun k_ hk => (⟨hk, hk.2⟩ : _ ∧ k_ ≠ gb588))) (fun _ hk => hk.2) (.string ((rd_T48 t578 x24_1).f0))) (fun _ hk => hk.2) (.slice A587_1 ((rd_T48 t578 x24_1).f1).length c587_1)) (fun _ hk => hk.2) (.int .i64 ((rd_T48 t578 x24_1).f2))) (fun _ hk => hk.2) (.int .i64 ((rd_T48 t578 x24_1).f3))) (fun _ hk => hk.2) (.int .i64 ((rd_T48 t578 x24_1).f4))) (fun _ hk => hk.2) (.string ((rd_T48 t578 x24_1).f5))) (fun _ hk => ⟨hk.1.1.1, ⟨hk.1.1.2.1, ⟨hk.1.1.2.2.1, hk.1.1.2.2.2⟩⟩⟩))⟩, ⟨kN (Kd.N_mono (Kd.N_far (p := ⟨gb588, 5, none⟩) (Kd.N_far (p := ⟨gb588, 4, none⟩) (Kd.N_far (p := ⟨gb588, 3, none⟩) (Kd.N_far (p := ⟨gb588, 2, none⟩) (Kd.N_far (p := ⟨gb588, 1, none⟩) (Kd.N_far (p := ⟨gb588, 0, none⟩) (Kd.N_mono HO_586001.out (fun k_ hk => (⟨hk, hk.2⟩ : _ ∧ k_ ≠ gb588))) (fun _ hk => hk.2) (.string ((rd_T48 t578 x24_1).f0))) (fun _ hk => hk.2) (.slice A587_1 ((rd_T48 t578 x24_1).f1).length c587_1)) (fun _ hk => hk.2) (.int .i64 ((rd_T48 t578 x24_1).f2))) (fun _ hk => hk.2) (.int .i64 ((rd_T48 t578 x24_1).f3))) (fun _ hk => hk.2) (.int .i64 ((rd_T48 t578 x24_1).f4))) (fun _ hk => hk.2) (.string ((rd_T48 t578 x24_1).f5))) (fun _ hk => ⟨hk.1.1.1, ⟨hk.1.1.2.1, ⟨hk.1.1.2.2.1, hk.1.1.2.2.2⟩⟩⟩))⟩, ⟨kN (Kd.N_mono (Kd.N_far (p := ⟨gb588, 5, none⟩) (Kd.N_far (p := ⟨gb588, 4, none⟩) (Kd.N_far (p := ⟨gb588, 3, none⟩) (Kd.N_far (p := ⟨gb588, 2, none⟩) (Kd.N_far (p := ⟨gb588, 1, none⟩) (Kd.N_far (p := ⟨gb588, 0, none⟩) (Kd.N_mono HO_587001.out (fun k_ hk => (⟨hk, hk.2⟩ : _ ∧ k_ ≠ gb588))) (fun _ hk => hk.2) (.string ((rd_T48 t578 x24_1).f0))) (fun _ hk => hk.2) (.slice A587_1 ((rd_T48 t578 x24_1).f1).length c587_1)) (fun _ hk => hk.2) (.int .i64 ((rd_T48 t578 x24_1).f2))) (fun _ hk => hk.2) (.int .i64 ((rd_T48 t578 x24_1).f3))) (fun _ hk => hk.2) (.int .i64 ((rd_T48 t578 x24_1).f4))) (fun _ hk => hk.2) (.string ((rd_T48 t578 x24_1).f5))) (fun _ hk => ⟨hk.1.1.1, ⟨hk.1.1.2.1, ⟨hk.1.1.2.2.1, ⟨hk.1.1.2.2.2.1, hk.1.1.2.2.2.2⟩⟩⟩⟩))⟩, ⟨by (with_reducible repeat (first | refine blk_drewN ?_ _ | refine blk_drew ?_ | refine blk_alloc ?_ _)); refine blk_far ?_ NB576_588.out _; (with_reducible repeat (first | refine blk_drewN ?_ _ | refine blk_drew ?_ | refine blk_alloc ?_ _)); refine blk_far ?_ NB576_588.out _; (with_reducible repeat (first | refine blk_drewN ?_ _ | refine blk_drew ?_ | refine blk_alloc ?_ _)); refine blk_far ?_ NB576_588.out _; (with_reducible repeat (first | refine blk_drewN ?_ _ | refine blk_drew ?_ | refine blk_alloc ?_ _)); refine blk_far ?_ NB576_588.out _; (with_reducible repeat (first | refine blk_drewN ?_ _ | refine blk_drew ?_ | refine blk_alloc ?_ _)); refine blk_far ?_ NB576_588.out _; (with_reducible repeat (first | refine blk_drewN ?_ _ | refine blk_drew ?_ | refine blk_alloc ?_ _)); refine blk_far ?_ NB576_588.out _; (with_reducible repeat (first | refine blk_drewN ?_ _ | refine blk_drew ?_ | refine blk_alloc ?_ _)); exact BK576.out⟩, ⟨by (with_reducible repeat (first | refine blk_drewN ?_ _ | refine blk_drew ?_ | refine blk_alloc ?_ _)); refine blk_far ?_ NB585_588.out _; (with_reducible repeat (first | refine blk_drewN ?_ _ | refine blk_drew ?_ | refine blk_alloc ?_ _)); refine blk_far ?_ NB585_588.out _; (with_reducible repeat (first | refine blk_drewN ?_ _ | refine blk_drew ?_ | refine blk_alloc ?_ _)); refine blk_far ?_ NB585_588.out _; (with_reducible repeat (first | refine blk_drewN ?_ _ | refine blk_drew ?_ | refine blk_alloc ?_ _)); refine blk_far ?_ NB585_588.out _; (with_reducible repeat (first | refine blk_drewN ?_ _ | refine blk_drew ?_ | refine blk_alloc ?_ _)); refine blk_far ?_ NB585_588.out _; (with_reducible repeat (first | refine blk_drewN ?_ _ | refine blk_drew ?_ | refine blk_alloc ?_ _)); refine blk_far ?_ NB585_588.out _; (with_reducible repeat (first | refine blk_drewN ?_ _ | refine blk_drew ?_ | refine blk_alloc ?_ _)); exact BK585.out⟩, ⟨by (with_reducible repeat (first | refine blk_drewN ?_ _ | refine blk_drew ?_ | refine blk_alloc ?_ _)); refine blk_far ?_ NB586_588.out _; (with_reducible repeat (first | refine blk_drewN ?_ _ | refine blk_drew ?_ | refine blk_alloc ?_ _)); refine blk_far ?_ NB586_588.out _; (with_reducible repeat (first | refine blk_drewN ?_ _ | refine blk_drew ?_ | refine blk_alloc ?_ _)); refine blk_far ?_ NB586_588.out _; (with_reducible repeat (first | refine blk_drewN ?_ _ | refine blk_drew ?_ | refine blk_alloc ?_ _)); refine blk_far ?_ NB586_588.out _; (with_reducible repeat (first | refine blk_drewN ?_ _ | refine blk_drew ?_ | refine blk_alloc ?_ _)); refine blk_far ?_ NB586_588.out _; (with_reducible repeat (first | refine blk_drewN ?_ _ | refine blk_drew ?_ | refine blk_alloc ?_ _)); refine blk_far ?_ NB586_588.out _; (with_reducible repeat (first | refine blk_drewN ?_ _ | refine blk_drew ?_ | refine blk_alloc ?_ _)); exact BK586.out⟩, ⟨bb⟩⟩
     ·rw [if_neg c18] at H
      exact absurd H (by simp)
    ·rw [if_neg c17] at H
     exact absurd H (by simp)
   ·rw [if_neg c16] at H
    have c16b0 : decide (x24_1 < (t578.length : Int)) = false := decide_eq_false c16
    clear c16
    replace H := Option.bind_eq_some_iff.mp H
    obtain ⟨⟨t589, t590, t591, t592⟩, A360, H⟩ := H
    replace H : ((graph_Read.f k1 t589 t590 t591 t592).bind fun bt595 => ((precinctlaw12_wakes.f).bind fun t601 => (if t601 = true then (if ((bt595.2.2 == 0) != x7_1) = true then (precinctlaw12_GraphBack.j1 k1 l1 true) else (if x7_1 = true then ((graph_Value.f k1 bt595.1 bt595.2.1).bind fun bt602 => ((graph_Value.f k1 t577 t578).bind fun bt608 => ((pack_Equal.f bt602.1 bt602.2.1 bt602.2.2.1 bt602.2.2.2 bt608.1 bt608.2.1 bt608.2.2.1 bt608.2.2.2).bind fun t614 => (precinctlaw12_GraphBack.j1 k1 l1 (!t614))))) else (precinctlaw12_GraphBack.j1 k1 l1 false))) else (precinctlaw12_GraphBack.j1 k1 l1 true)))) = some r := H
    have A36 := Aside0.mk A360
    clear A360
    replace H := Option.bind_eq_some_iff.mp H
    obtain ⟨⟨t595, t596, t599⟩, A370, H⟩ := H
    replace H : ((precinctlaw12_wakes.f).bind fun t601 => (if t601 = true then (if ((t599 == 0) != x7_1) = true then (precinctlaw12_GraphBack.j1 k1 l1 true) else (if x7_1 = true then ((graph_Value.f k1 t595 t596).bind fun bt602 => ((graph_Value.f k1 t577 t578).bind fun bt608 => ((pack_Equal.f bt602.1 bt602.2.1 bt602.2.2.1 bt602.2.2.2 bt608.1 bt608.2.1 bt608.2.2.1 bt608.2.2.2).bind fun t614 => (precinctlaw12_GraphBack.j1 k1 l1 (!t614))))) else (precinctlaw12_GraphBack.j1 k1 l1 false))) else (precinctlaw12_GraphBack.j1 k1 l1 true))) = some r := H
    have A37 := Aside0.mk A370
    clear A370
    have HC38 := Aside0.mk H
    clear H
    have hnb39 := NB585_576.out
    have hnc39 := NB576_585.out
    have hnb40 := NB585_586.out
    have hnc40 := NB586_585.out
    have hcz41_0 : wr.cell? ⟨gb585, 0, none⟩ = some (.string t577) := (blk_cell BK585.out 0).trans rfl
    have hcz41_1 : wr.cell? ⟨gb585, 1, none⟩ = some (.slice Ao12 t578.length co12) := (blk_cell BK585.out 1).trans rfl
    have hfz41_0 := blk_frozen BK585.out 0
    have hfz41_1 := blk_frozen BK585.out 1
    go_upto_region 9 with (first | ((with_reducible refine gate_callee (f := 25) rfl ?_); refine goesL_ (some 50) rfl rfl Try.func25 (by kernel_rfl) rfl #[.agg #[.string t577, .slice Ao12 t578.length co12]] rfl ag ?_; (with_reducible refine (graph_Value.calls k1 t577 _ _ t578 t589 t590 t591 t592 _ ?side1 ?side2 A36.out).mono ?_); (case side1 => repeat (first | exact (Kd.N_reads' HO_586001.out).2.2 | (with_reducible refine Kd.C_alloc ?_ _) | (with_reducible refine Kd.C_drewN ?_ _) | (with_reducible refine Kd.C_drew ?_))); (case side2 => exact (Kd.N_reads' HO_586001.out).2.1); rintro e w42 ⟨v593, rfl, ho0, hb⟩; refine ⟨_, rfl, ?_⟩; have n0_ := Aside0.mk (Kd.N_elder' (kN HO_22.out) (by first | exact Kd.N_base ho0 | exact Kd.N_base (Kd.R_N ho0) | exact Kd.N_base (Kd.S_N ho0)) hb); have n1_ := Aside0.mk (Kd.N_elder' (kN HO_586001.out) (by first | exact Kd.N_base ho0 | exact Kd.N_base (Kd.R_N ho0) | exact Kd.N_base (Kd.S_N ho0)) hb); have n2_ := Aside0.mk (Kd.N_elder' (kN HO_587001.out) (by first | exact Kd.N_base ho0 | exact Kd.N_base (Kd.R_N ho0) | exact Kd.N_base (Kd.S_N ho0)) hb); have n3_ := Aside0.mk (Kd.N_lower (Kd.N_mono (ok' := fun k_ => some k_ ≠ (.slice Ao12 t578.length co12 : Value).ownBlock ∧ some k_ ≠ (.slice Ao12 t578.length co12 : Value).ownBlock ∧ some k_ ≠ (.slice Ao15 t582.length co15 : Value).ownBlock ∧ k_ ≠ gb576 ∧ k_ ≠ gb585 ∧ k_ ≠ gb586) ho0 (fun k_ hk_ => ⟨(Kd.fresh' (Kd.N_lt (kN HO_22.out)) k_ hk_), (Kd.fresh' (Kd.N_lt (kN HO_586001.out)) k_ hk_), (Kd.fresh' (Kd.N_lt (kN HO_587001.out)) k_ hk_), (Kd.freshB (rb BK576.out) k_ hk_), (Kd.freshB (rb BK585.out) k_ hk_), (Kd.freshB (rb BK586.out) k_ hk_)⟩)) (below_size bb)); have n4_ := Aside0.mk (blk_below (rb BK576.out) hb); have n5_ := Aside0.mk (blk_below (rb BK585.out) hb); have n6_ := Aside0.mk (blk_below (rb BK586.out) hb); have n7_ := Aside0.mk (below_step bb hb); clear HO_22; clear HO_586001; clear HO_587001; clear BK576; clear BK585; clear BK586; clear HB; have HO_22 := n0_; have HO_586001 := n1_; have HO_587001 := n2_; have HO594 := n3_; have BK576 := n4_; have BK585 := n5_; have BK586 := n6_; have HB := n7_; clear n0_ n1_ n2_ n3_ n4_ n5_ n6_ n7_; (try clear hb); (try clear hb2); (try clear hk); (try clear hi); (try clear ho0); obtain ⟨Ao43, co43, eo43⟩ := Kd.N_slice HO594.out; subst eo43) | ((with_reducible refine gate_callee (f := 22) rfl ?_); refine goesL_ (some 51) rfl rfl Try.func22 (by kernel_rfl) rfl #[.agg #[.int .i64 t589, .int .i64 t590, .string t591, .slice Ao43 t592.length co43]] rfl ag ?_; (with_reducible refine (graph_Read.calls k1 t589 t590 t591 _ _ t592 t595 t596 t599 _ ?side1 ?side2 A37.out).mono ?_); (case side1 => repeat (first | exact (Kd.N_reads' HO594.out).2.2 | (with_reducible refine Kd.C_alloc ?_ _) | (with_reducible refine Kd.C_drewN ?_ _) | (with_reducible refine Kd.C_drew ?_))); (case side2 => exact (Kd.N_reads' HO594.out).2.1); rintro e w44 ⟨v597, rfl, ho0, hb⟩; refine ⟨_, rfl, ?_⟩; have n0_ := Aside0.mk (Kd.N_elder' (kN HO_22.out) (by first | exact Kd.N_base ho0 | exact Kd.N_base (Kd.R_N ho0) | exact Kd.N_base (Kd.S_N ho0)) hb); have n1_ := Aside0.mk (Kd.N_elder' (kN HO_586001.out) (by first | exact Kd.N_base ho0 | exact Kd.N_base (Kd.R_N ho0) | exact Kd.N_base (Kd.S_N ho0)) hb); have n2_ := Aside0.mk (Kd.N_elder' (kN HO_587001.out) (by first | exact Kd.N_base ho0 | exact Kd.N_base (Kd.R_N ho0) | exact Kd.N_base (Kd.S_N ho0)) hb); have n3_ := Aside0.mk (Kd.N_elder' (kN HO594.out) (by first | exact Kd.N_base ho0 | exact Kd.N_base (Kd.R_N ho0) | exact Kd.N_base (Kd.S_N ho0)) hb); have n4_ := Aside0.mk (Kd.N_lower (Kd.N_mono (ok' := fun k_ => some k_ ≠ (.slice Ao12 t578.length co12 : Value).ownBlock ∧ some k_ ≠ (.slice Ao12 t578.length co12 : Value).ownBlock ∧ some k_ ≠ (.slice Ao15 t582.length co15 : Value).ownBlock ∧ some k_ ≠ (.slice Ao43 t592.length co43 : Value).ownBlock ∧ k_ ≠ gb576 ∧ k_ ≠ gb585 ∧ k_ ≠ gb586) (Kd.S_N (Kd.S_bound ho0)) (fun k_ hk_ => ⟨(Kd.fresh' (Kd.N_lt (kN HO_22.out)) k_ hk_.2.1), (Kd.fresh' (Kd.N_lt (kN HO_586001.out)) k_ hk_.2.1), (Kd.fresh' (Kd.N_lt (kN HO_587001.out)) k_ hk_.2.1), (Kd.fresh' (Kd.N_lt (kN HO594.out)) k_ hk_.2.1), (Kd.freshB (rb BK576.out) k_ hk_.2.1), (Kd.freshB (rb BK585.out) k_ hk_.2.1), (Kd.freshB (rb BK586.out) k_ hk_.2.1)⟩)) (below_size bb)); have n5_ := Aside0.mk (blk_below (rb BK576.out) hb); have n6_ := Aside0.mk (blk_below (rb BK585.out) hb); have n7_ := Aside0.mk (blk_below (rb BK586.out) hb); have n8_ := Aside0.mk (below_step bb hb); clear HO_22; clear HO_586001; clear HO_587001; clear HO594; clear BK576; clear BK585; clear BK586; clear HB; have HO_22 := n0_; have HO_586001 := n1_; have HO_587001 := n2_; have HO594 := n3_; have HO598 := n4_; have BK576 := n5_; have BK585 := n6_; have BK586 := n7_; have HB := n8_; clear n0_ n1_ n2_ n3_ n4_ n5_ n6_ n7_ n8_; (try clear hb); (try clear hb2); (try clear hk); (try clear hi); (try clear ho0)) | ((with_reducible refine gate_dst (N := 10) rfl ?_); refine box_event ?hg (N := 10) ?hd (cs := #[.string (⟨#[]⟩ : ByteArray), .slice none 0 0]) (t := 27) ?hr ?_; (case hd => rfl); (case hg => rfl); (case hr => first | (go_simp; done) | (go_simp; rfl)); intro gb600 hg w45 hbox hb; have n0_ := Aside0.mk (Kd.N_below (Kd.N_elderB (kN HO_22.out) gb600 (Nat.le_of_eq hg.symm)) hb); have n1_ := Aside0.mk (Kd.N_below (Kd.N_elderB (kN HO_586001.out) gb600 (Nat.le_of_eq hg.symm)) hb); have n2_ := Aside0.mk (Kd.N_below (Kd.N_elderB (kN HO_587001.out) gb600 (Nat.le_of_eq hg.symm)) hb); have n3_ := Aside0.mk (Kd.N_below (Kd.N_elderB (kN HO594.out) gb600 (Nat.le_of_eq hg.symm)) hb); have n4_ := Aside0.mk (Kd.N_below (Kd.N_elderB (kN HO598.out) gb600 (Nat.le_of_eq hg.symm)) hb); have n5_ := Aside0.mk (blk_below (rb BK576.out) hb); have n6_ := Aside0.mk (blk_below (rb BK585.out) hb); have n7_ := Aside0.mk (blk_below (rb BK586.out) hb); have n8_ := Aside0.mk (below_step bb hb); have n9_ := Aside0.mk (hbox); have n10_ := Aside0.mk ((by rw [hg]; exact (below_size bb) : w.heap.size ≤ gb600)); have n11_ := Aside0.mk ((by rw [hg]; exact (below_size bb) : w.heap.size ≤ gb600)); have n12_ := Aside0.mk ((by rw [hg]; exact Nat.ne_of_lt (blk_lt (rb BK576.out)) : gb576 ≠ gb600)); have n13_ := Aside0.mk ((by rw [hg]; exact Nat.ne_of_gt (blk_lt (rb BK576.out)) : gb600 ≠ gb576)); have n14_ := Aside0.mk ((by rw [hg]; exact Nat.ne_of_lt (blk_lt (rb BK585.out)) : gb585 ≠ gb600)); have n15_ := Aside0.mk ((by rw [hg]; exact Nat.ne_of_gt (blk_lt (rb BK585.out)) : gb600 ≠ gb585)); have n16_ := Aside0.mk ((by rw [hg]; exact Nat.ne_of_lt (blk_lt (rb BK586.out)) : gb586 ≠ gb600)); have n17_ := Aside0.mk ((by rw [hg]; exact Nat.ne_of_gt (blk_lt (rb BK586.out)) : gb600 ≠ gb586)); clear HO_22; clear HO_586001; clear HO_587001; clear HO594; clear HO598; clear BK576; clear BK585; clear BK586; clear HB; have HO_22 := n0_; have HO_586001 := n1_; have HO_587001 := n2_; have HO594 := n3_; have HO598 := n4_; have BK576 := n5_; have BK585 := n6_; have BK586 := n7_; have HB := n8_; have BK600 := n9_; have GW600 := n10_; have GE600 := n11_; have NB576_600 := n12_; have NB600_576 := n13_; have NB585_600 := n14_; have NB600_585 := n15_; have NB586_600 := n16_; have NB600_586 := n17_; clear n0_ n1_ n2_ n3_ n4_ n5_ n6_ n7_ n8_ n9_ n10_ n11_ n12_ n13_ n14_ n15_ n16_ n17_; clear hb hbox hg; have hnb46 := NB600_576.out; have hnc46 := NB576_600.out; have hnb47 := NB600_585.out; have hnc47 := NB585_600.out; have hnb48 := NB600_586.out; have hnc48 := NB586_600.out; have hcz49_0 : w45.cell? ⟨gb600, 0, none⟩ = some (.string (⟨#[]⟩ : ByteArray)) := (blk_cell BK600.out 0).trans rfl; have hcz49_1 : w45.cell? ⟨gb600, 1, none⟩ = some (.slice none 0 0) := (blk_cell BK600.out 1).trans rfl; have hfz49_0 := blk_frozen BK600.out 0; have hfz49_1 := blk_frozen BK600.out 1; obtain ⟨Ao50, co50, eo50⟩ := Kd.N_slice HO598.out; subst eo50))
    (try simp only [Act.put, List.setIfInBounds_toArray, List.set_cons_zero, List.set_cons_succ])
    go_cut [72] (fun v72 wc => ∃ (kq : Nat) (x72_37 : Bool), v72 = .bool x72_37 ∧ Aside0 (precinctlaw12_GraphBack.j1 kq l1 x72_37 = some r) ∧ Aside0 (kq ≤ k1) ∧ Aside0 (Kd.N k48 48 wc w.heap.size (fun k_ => some k_ ≠ ((.slice Ao15 t582.length co15) : Value).ownBlock ∧ some k_ ≠ ((.slice Ao50 t596.length co50) : Value).ownBlock ∧ k_ ≠ gb576 ∧ k_ ≠ gb585 ∧ k_ ≠ gb586 ∧ k_ ≠ gb600) (.slice Ao12 t578.length co12) t578) ∧ Aside0 (Kd.N k125 125 wc w.heap.size (fun k_ => some k_ ≠ ((.slice Ao12 t578.length co12) : Value).ownBlock ∧ some k_ ≠ ((.slice Ao50 t596.length co50) : Value).ownBlock ∧ k_ ≠ gb576 ∧ k_ ≠ gb585 ∧ k_ ≠ gb586 ∧ k_ ≠ gb600) (.slice Ao15 t582.length co15) t582) ∧ Aside0 (Kd.N k48 48 wc w.heap.size (fun k_ => some k_ ≠ ((.slice Ao12 t578.length co12) : Value).ownBlock ∧ some k_ ≠ ((.slice Ao15 t582.length co15) : Value).ownBlock ∧ k_ ≠ gb576 ∧ k_ ≠ gb585 ∧ k_ ≠ gb586 ∧ k_ ≠ gb600) (.slice Ao50 t596.length co50) t596) ∧ Aside0 (wc.heap[gb576]? = some (.cells #[.string a0_0, (.slice A0_1 l0_1.length c0_1)] 24 (0, 0))) ∧ Aside0 (wc.heap[gb585]? = some (.cells #[.string t577, (.slice Ao12 t578.length co12)] 27 (0, 0))) ∧ Aside0 (wc.heap[gb586]? = some (.cells #[.string t581, (.slice Ao15 t582.length co15)] 30 (0, 0))) ∧ Aside0 (wc.heap[gb600]? = some (.cells #[.string t595, (.slice Ao50 t596.length co50)] 27 (0, 0))) ∧ Aside0 (Below w.heap.size w wc))
    case first =>
     have H := HC38.out
     clear HC38
     replace H := Option.bind_eq_some_iff.mp H
     obtain ⟨t601, A510, H⟩ := H
     replace H : (if t601 = true then (if ((t599 == 0) != x7_1) = true then (precinctlaw12_GraphBack.j1 k1 l1 true) else (if x7_1 = true then ((graph_Value.f k1 t595 t596).bind fun bt602 => ((graph_Value.f k1 t577 t578).bind fun bt608 => ((pack_Equal.f bt602.1 bt602.2.1 bt602.2.2.1 bt602.2.2.2 bt608.1 bt608.2.1 bt608.2.2.1 bt608.2.2.2).bind fun t614 => (precinctlaw12_GraphBack.j1 k1 l1 (!t614))))) else (precinctlaw12_GraphBack.j1 k1 l1 false))) else (precinctlaw12_GraphBack.j1 k1 l1 true)) = some r := H
     have A51 := Aside0.mk A510
     clear A510
     by_cases c52 : t601 = true
     ·subst c52
      have H1 : (if ((t599 == 0) != x7_1) = true then (precinctlaw12_GraphBack.j1 k1 l1 true) else (if x7_1 = true then ((graph_Value.f k1 t595 t596).bind fun bt602 => ((graph_Value.f k1 t577 t578).bind fun bt608 => ((pack_Equal.f bt602.1 bt602.2.1 bt602.2.2.1 bt602.2.2.2 bt608.1 bt608.2.1 bt608.2.2.1 bt608.2.2.2).bind fun t614 => (precinctlaw12_GraphBack.j1 k1 l1 (!t614))))) else (precinctlaw12_GraphBack.j1 k1 l1 false))) = some r := by rw [if_pos rfl] at H; exact H
      clear H
      have H := H1
      clear H1
      by_cases c53 : ((t599 == 0) != x7_1) = true
      ·rw [if_pos c53] at H
       have c53b0 : ((t599 == 0) != x7_1) = true := c53
       (try (have c53b1 : decide ((t599 == 0) = x7_1) = false := by simpa using c53))
       (try (have c53b2 : ((t599 == 0) == x7_1) = false := by simpa using c53))
       (try (have c53b3 : ¬ ((t599 == 0) = x7_1) := by simpa using c53))
       clear c53
       (first | rw [c53b0] | (simp only [i64_w, i32_w]; rw [c53b0]) | skip)
       have H' := Aside0.mk H
       clear H
       try go_wp2
       have n0_ : Aside0 (Kd.N k48 48 ((w45.setCell ⟨gb600, 0, none⟩ (.string t595)).setCell ⟨gb600, 1, none⟩ (.slice Ao50 t596.length co50)) w.heap.size (fun k_ => some k_ ≠ (.slice Ao15 t582.length co15 : Value).ownBlock ∧ some k_ ≠ (.slice Ao43 t592.length co43 : Value).ownBlock ∧ some k_ ≠ (.slice Ao50 t596.length co50 : Value).ownBlock ∧ k_ ≠ gb576 ∧ k_ ≠ gb585 ∧ k_ ≠ gb586 ∧ k_ ≠ gb600) (.slice Ao12 t578.length co12) t578) := ⟨kN (Kd.N_mono (Kd.N_far (p := ⟨gb600, 1, none⟩) (Kd.N_far (p := ⟨gb600, 0, none⟩) (Kd.N_mono HO_22.out (fun k_ hk => (⟨hk, hk.2⟩ : _ ∧ k_ ≠ gb600))) (fun _ hk => hk.2) (.string t595)) (fun _ hk => hk.2) (.slice Ao50 t596.length co50)) (fun _ hk => ⟨hk.1.1.1.1.1, ⟨hk.1.1.1.2, ⟨hk.1.1.2, ⟨hk.1.1.1.1.2.1, ⟨hk.1.1.1.1.2.2.1, ⟨hk.1.1.1.1.2.2.2, hk.1.2⟩⟩⟩⟩⟩⟩))⟩
       have n1_ : Aside0 (Kd.N k48 48 ((w45.setCell ⟨gb600, 0, none⟩ (.string t595)).setCell ⟨gb600, 1, none⟩ (.slice Ao50 t596.length co50)) w.heap.size (fun k_ => some k_ ≠ (.slice Ao15 t582.length co15 : Value).ownBlock ∧ some k_ ≠ (.slice Ao43 t592.length co43 : Value).ownBlock ∧ some k_ ≠ (.slice Ao50 t596.length co50 : Value).ownBlock ∧ k_ ≠ gb576 ∧ k_ ≠ gb585 ∧ k_ ≠ gb586 ∧ k_ ≠ gb600) (.slice Ao12 t578.length co12) t578) := ⟨kN (Kd.N_mono (Kd.N_far (p := ⟨gb600, 1, none⟩) (Kd.N_far (p := ⟨gb600, 0, none⟩) (Kd.N_mono HO_586001.out (fun k_ hk => (⟨hk, hk.2⟩ : _ ∧ k_ ≠ gb600))) (fun _ hk => hk.2) (.string t595)) (fun _ hk => hk.2) (.slice Ao50 t596.length co50)) (fun _ hk => ⟨hk.1.1.1.1.1, ⟨hk.1.1.1.2, ⟨hk.1.1.2, ⟨hk.1.1.1.1.2.1, ⟨hk.1.1.1.1.2.2.1, ⟨hk.1.1.1.1.2.2.2, hk.1.2⟩⟩⟩⟩⟩⟩))⟩
       have n2_ : Aside0 (Kd.N k125 125 ((w45.setCell ⟨gb600, 0, none⟩ (.string t595)).setCell ⟨gb600, 1, none⟩ (.slice Ao50 t596.length co50)) w.heap.size (fun k_ => some k_ ≠ (.slice Ao12 t578.length co12 : Value).ownBlock ∧ some k_ ≠ (.slice Ao12 t578.length co12 : Value).ownBlock ∧ some k_ ≠ (.slice Ao43 t592.length co43 : Value).ownBlock ∧ some k_ ≠ (.slice Ao50 t596.length co50 : Value).ownBlock ∧ k_ ≠ gb576 ∧ k_ ≠ gb585 ∧ k_ ≠ gb586 ∧ k_ ≠ gb600) (.slice Ao15 t582.length co15) t582) := ⟨kN (Kd.N_mono (Kd.N_far (p := ⟨gb600, 1, none⟩) (Kd.N_far (p := ⟨gb600, 0, none⟩) (Kd.N_mono HO_587001.out (fun k_ hk => (⟨hk, hk.2⟩ : _ ∧ k_ ≠ gb600))) (fun _ hk => hk.2) (.string t595)) (fun _ hk => hk.2) (.slice Ao50 t596.length co50)) (fun _ hk => ⟨hk.1.1.1.1.1, ⟨hk.1.1.1.1.2.1, ⟨hk.1.1.1.2, ⟨hk.1.1.2, ⟨hk.1.1.1.1.2.2.1, ⟨hk.1.1.1.1.2.2.2.1, ⟨hk.1.1.1.1.2.2.2.2, hk.1.2⟩⟩⟩⟩⟩⟩⟩))⟩
       have n3_ : Aside0 (Kd.N k54 54 ((w45.setCell ⟨gb600, 0, none⟩ (.string t595)).setCell ⟨gb600, 1, none⟩ (.slice Ao50 t596.length co50)) w.heap.size (fun k_ => some k_ ≠ (.slice Ao12 t578.length co12 : Value).ownBlock ∧ some k_ ≠ (.slice Ao12 t578.length co12 : Value).ownBlock ∧ some k_ ≠ (.slice Ao15 t582.length co15 : Value).ownBlock ∧ some k_ ≠ (.slice Ao50 t596.length co50 : Value).ownBlock ∧ k_ ≠ gb576 ∧ k_ ≠ gb585 ∧ k_ ≠ gb586 ∧ k_ ≠ gb600) (.slice Ao43 t592.length co43) t592) := ⟨kN (Kd.N_mono (Kd.N_far (p := ⟨gb600, 1, none⟩) (Kd.N_far (p := ⟨gb600, 0, none⟩) (Kd.N_mono HO594.out (fun k_ hk => (⟨hk, hk.2⟩ : _ ∧ k_ ≠ gb600))) (fun _ hk => hk.2) (.string t595)) (fun _ hk => hk.2) (.slice Ao50 t596.length co50)) (fun _ hk => ⟨hk.1.1.1.1, ⟨hk.1.1.1.2.1, ⟨hk.1.1.1.2.2.1, ⟨hk.1.1.2, ⟨hk.1.1.1.2.2.2.1, ⟨hk.1.1.1.2.2.2.2.1, ⟨hk.1.1.1.2.2.2.2.2, hk.1.2⟩⟩⟩⟩⟩⟩⟩))⟩
       have n4_ : Aside0 (Kd.N k48 48 ((w45.setCell ⟨gb600, 0, none⟩ (.string t595)).setCell ⟨gb600, 1, none⟩ (.slice Ao50 t596.length co50)) w.heap.size (fun k_ => some k_ ≠ (.slice Ao12 t578.length co12 : Value).ownBlock ∧ some k_ ≠ (.slice Ao12 t578.length co12 : Value).ownBlock ∧ some k_ ≠ (.slice Ao15 t582.length co15 : Value).ownBlock ∧ some k_ ≠ (.slice Ao43 t592.length co43 : Value).ownBlock ∧ k_ ≠ gb576 ∧ k_ ≠ gb585 ∧ k_ ≠ gb586 ∧ k_ ≠ gb600) (.slice Ao50 t596.length co50) t596) := ⟨kN (Kd.N_mono (Kd.N_far (p := ⟨gb600, 1, none⟩) (Kd.N_far (p := ⟨gb600, 0, none⟩) (Kd.N_mono HO598.out (fun k_ hk => (⟨hk, hk.2⟩ : _ ∧ k_ ≠ gb600))) (fun _ hk => hk.2) (.string t595)) (fun _ hk => hk.2) (.slice Ao50 t596.length co50)) (fun _ hk => ⟨hk.1.1.1, ⟨hk.1.1.2.1, ⟨hk.1.1.2.2.1, ⟨hk.1.1.2.2.2.1, ⟨hk.1.1.2.2.2.2.1, ⟨hk.1.1.2.2.2.2.2.1, ⟨hk.1.1.2.2.2.2.2.2, hk.1.2⟩⟩⟩⟩⟩⟩⟩))⟩
       have n5_ : Aside0 (((w45.setCell ⟨gb600, 0, none⟩ (.string t595)).setCell ⟨gb600, 1, none⟩ (.slice Ao50 t596.length co50)).heap[gb576]? = some (.cells #[.string a0_0, .slice A0_1 l0_1.length c0_1] 24 (0, 0))) := ⟨by (with_reducible repeat (first | refine blk_drewN ?_ _ | refine blk_drew ?_ | refine blk_alloc ?_ _)); refine blk_far ?_ NB576_600.out _; (with_reducible repeat (first | refine blk_drewN ?_ _ | refine blk_drew ?_ | refine blk_alloc ?_ _)); refine blk_far ?_ NB576_600.out _; (with_reducible repeat (first | refine blk_drewN ?_ _ | refine blk_drew ?_ | refine blk_alloc ?_ _)); exact BK576.out⟩
       have n6_ : Aside0 (((w45.setCell ⟨gb600, 0, none⟩ (.string t595)).setCell ⟨gb600, 1, none⟩ (.slice Ao50 t596.length co50)).heap[gb585]? = some (.cells #[.string t577, .slice Ao12 t578.length co12] 27 (0, 0))) := ⟨by (with_reducible repeat (first | refine blk_drewN ?_ _ | refine blk_drew ?_ | refine blk_alloc ?_ _)); refine blk_far ?_ NB585_600.out _; (with_reducible repeat (first | refine blk_drewN ?_ _ | refine blk_drew ?_ | refine blk_alloc ?_ _)); refine blk_far ?_ NB585_600.out _; (with_reducible repeat (first | refine blk_drewN ?_ _ | refine blk_drew ?_ | refine blk_alloc ?_ _)); exact BK585.out⟩
       have n7_ : Aside0 (((w45.setCell ⟨gb600, 0, none⟩ (.string t595)).setCell ⟨gb600, 1, none⟩ (.slice Ao50 t596.length co50)).heap[gb586]? = some (.cells #[.string t581, .slice Ao15 t582.length co15] 30 (0, 0))) := ⟨by (with_reducible repeat (first | refine blk_drewN ?_ _ | refine blk_drew ?_ | refine blk_alloc ?_ _)); refine blk_far ?_ NB586_600.out _; (with_reducible repeat (first | refine blk_drewN ?_ _ | refine blk_drew ?_ | refine blk_alloc ?_ _)); refine blk_far ?_ NB586_600.out _; (with_reducible repeat (first | refine blk_drewN ?_ _ | refine blk_drew ?_ | refine blk_alloc ?_ _)); exact BK586.out⟩
       have n8_ : Aside0 (((w45.setCell ⟨gb600, 0, none⟩ (.string t595)).setCell ⟨gb600, 1, none⟩ (.slice Ao50 t596.length co50)).heap[gb600]? = some (.cells #[.string t595, .slice Ao50 t596.length co50] 27 (0, 0))) := ⟨by (with_reducible repeat (first | refine blk_drewN ?_ _ | refine blk_drew ?_ | refine blk_alloc ?_ _)); refine blk_put (cs := #[.string t595, .slice none 0 0]) ?_ 1 _ rfl; (with_reducible repeat (first | refine blk_drewN ?_ _ | refine blk_drew ?_ | refine blk_alloc ?_ _)); refine blk_put (cs := #[.string (⟨#[]⟩ : ByteArray), .slice none 0 0]) ?_ 0 _ rfl; (with_reducible repeat (first | refine blk_drewN ?_ _ | refine blk_drew ?_ | refine blk_alloc ?_ _)); exact BK600.out⟩
       have n9_ : Aside0 (Below w.heap.size w ((w45.setCell ⟨gb600, 0, none⟩ (.string t595)).setCell ⟨gb600, 1, none⟩ (.slice Ao50 t596.length co50))) := ⟨bb⟩
       (try clear HO_22)
       (try clear HO_586001)
       (try clear HO_587001)
       (try clear HO594)
       (try clear HO598)
       (try clear BK576)
       (try clear BK585)
       (try clear BK586)
       (try clear BK600)
       (try clear HB)
       generalize ((w45.setCell ⟨gb600, 0, none⟩ (.string t595)).setCell ⟨gb600, 1, none⟩ (.slice Ao50 t596.length co50)) = w54 at n0_ n1_ n2_ n3_ n4_ n5_ n6_ n7_ n8_ n9_ ⊢
       have HO_22 := n0_
       have HO_586001 := n1_
       have HO_587001 := n2_
       have HO594 := n3_
       have HO598 := n4_
       have BK576 := n5_
       have BK585 := n6_
       have BK586 := n7_
       have BK600 := n8_
       have HB := n9_
       clear n0_ n1_ n2_ n3_ n4_ n5_ n6_ n7_ n8_ n9_
       have n0_ := Aside0.mk (Kd.N_drew HO_22.out)
       have n1_ := Aside0.mk (Kd.N_drew HO_586001.out)
       have n2_ := Aside0.mk (Kd.N_drew HO_587001.out)
       have n3_ := Aside0.mk (Kd.N_drew HO594.out)
       have n4_ := Aside0.mk (Kd.N_drew HO598.out)
       have n5_ := Aside0.mk (blk_drew BK576.out)
       have n6_ := Aside0.mk (blk_drew BK585.out)
       have n7_ := Aside0.mk (blk_drew BK586.out)
       have n8_ := Aside0.mk (blk_drew BK600.out)
       have n9_ := Aside0.mk (below_drew1 HB.out)
       clear HO_22
       clear HO_586001
       clear HO_587001
       clear HO594
       clear HO598
       clear BK576
       clear BK585
       clear BK586
       clear BK600
       clear HB
       have HO_22 := n0_
       have HO_586001 := n1_
       have HO_587001 := n2_
       have HO594 := n3_
       have HO598 := n4_
       have BK576 := n5_
       have BK585 := n6_
       have BK586 := n7_
       have BK600 := n8_
       have HB := n9_
       clear n0_ n1_ n2_ n3_ n4_ n5_ n6_ n7_ n8_ n9_
       refine start_ (n := 19) (S := fun w' => True) (ds := []) #[false, false, false, false, false, false, false, false, false, false, false, false, false, false, false, false, false, false, false] (by kernel_rfl) rfl rfl trivial (fun hHeld => ?_); refine with_tabW precinctlaw12_GraphBack.tab9 precinctlaw12_GraphBack.bits9 (fun HT_ HW_ => ?_)
       generalize w54.drew = w55 at HO_22 HO_586001 HO_587001 HO594 HO598 BK576 BK585 BK586 BK600 HB hHeld ⊢
       refine one_ (i := 0) (N := some 54) #[true, false, false, false, false, false, false, false, false, false, false, false, false, false, false, false, false, false, false] rfl rfl (one_of HT_.out (by kernel_rfl)) (by decide) (fun K hK => ?_)
       refine goes_ Try.func17 (by kernel_rfl) rfl #[] (by rfl) rfl rfl ag ?_
       with_reducible refine (precinctlaw12_wakes.calls  true _ A51.out).mono ?_
       rintro e w56 ⟨rfl, hb⟩
       refine ⟨_, rfl, ?_⟩
       have n0_ := Aside0.mk (Kd.N_below (kN HO_22.out) hb)
       have n1_ := Aside0.mk (Kd.N_below (kN HO_586001.out) hb)
       have n2_ := Aside0.mk (Kd.N_below (kN HO_587001.out) hb)
       have n3_ := Aside0.mk (Kd.N_below (kN HO594.out) hb)
       have n4_ := Aside0.mk (Kd.N_below (kN HO598.out) hb)
       have n5_ := Aside0.mk (blk_below (rb BK576.out) hb)
       have n6_ := Aside0.mk (blk_below (rb BK585.out) hb)
       have n7_ := Aside0.mk (blk_below (rb BK586.out) hb)
       have n8_ := Aside0.mk (blk_below (rb BK600.out) hb)
       have n9_ := Aside0.mk (below_step bb hb)
       clear HO_22
       clear HO_586001
       clear HO_587001
       clear HO594
       clear HO598
       clear BK576
       clear BK585
       clear BK586
       clear BK600
       clear HB
       have HO_22 := n0_
       have HO_586001 := n1_
       have HO_587001 := n2_
       have HO594 := n3_
       have HO598 := n4_
       have BK576 := n5_
       have BK585 := n6_
       have BK586 := n7_
       have BK600 := n8_
       have HB := n9_
       clear n0_ n1_ n2_ n3_ n4_ n5_ n6_ n7_ n8_ n9_
       (try clear hb)
       (try clear hb2)
       (try clear hk)
       (try clear hi)
       refine hK.out _ _ trivial (fun hHeld => ?_)
       clear hK K
       refine norm_ (a' := ?_) ?_ ?_
       rotate_left
       ·show Act.put _ (some 54) _ = _
        simp only [Act.put, List.setIfInBounds_toArray, List.set_cons_zero, List.set_cons_succ, i64_w, i32_w]
        rfl
       refine pure_ (i := 1) (N := some 55) (v := ?_) (a' := ?_) #[true, true, false, false, false, false, false, false, false, false, false, false, false, false, false, false, false, false, false] rfl rfl (any_of HT_.out (by kernel_rfl)) (fun _ _ _ h => h) (Or.inl ⟨by rfl, ?_⟩) ?_ ?_
       rotate_left
       ·intro w'
        go_simp
        with_reducible rfl
       rotate_left
       ·simp only [Act.put, List.setIfInBounds_toArray, List.set_cons_zero, List.set_cons_succ, i64_w, i32_w]
        rfl
       refine pure_ (i := 2) (N := some 56) (v := ?_) (a' := ?_) #[true, true, true, false, false, false, false, false, false, false, false, false, false, false, false, false, false, false, false] rfl rfl (any_of HT_.out (by kernel_rfl)) (fun _ _ _ h => h) (Or.inl ⟨by rfl, ?_⟩) ?_ ?_
       rotate_left
       ·intro w'
        go_simp
        with_reducible rfl
       rotate_left
       ·simp only [Act.put, List.setIfInBounds_toArray, List.set_cons_zero, List.set_cons_succ, i64_w, i32_w]
        rfl
       refine pure_ (i := 3) (N := some 57) (v := ?_) (a' := ?_) #[true, true, true, true, false, false, false, false, false, false, false, false, false, false, false, false, false, false, false] rfl rfl (any_of HT_.out (by kernel_rfl)) (fun _ _ _ h => h) (Or.inl ⟨by rfl, ?_⟩) ?_ ?_
       rotate_left
       ·intro w'
        go_simp
        with_reducible rfl
       rotate_left
       ·simp only [Act.put, List.setIfInBounds_toArray, List.set_cons_zero, List.set_cons_succ, i64_w, i32_w]
        rfl
       refine pure_ (i := 4) (N := some 58) (v := ?_) (a' := ?_) #[true, true, true, true, true, false, false, false, false, false, false, false, false, false, false, false, false, false, false] rfl rfl (any_of HT_.out (by kernel_rfl)) (fun _ _ _ h => h) (Or.inl ⟨by rfl, ?_⟩) ?_ ?_
       rotate_left
       ·intro w'
        go_simp
        with_reducible rfl
       rotate_left
       ·simp only [Act.put, List.setIfInBounds_toArray, List.set_cons_zero, List.set_cons_succ, i64_w, i32_w]
        rfl
       refine pure_ (i := 5) (N := some 59) (v := ?_) (a' := ?_) #[true, true, true, true, true, true, false, false, false, false, false, false, false, false, false, false, false, false, false] rfl rfl (any_of HT_.out (by kernel_rfl)) (fun _ _ _ h => h) (Or.inl ⟨by rfl, ?_⟩) ?_ ?_
       rotate_left
       ·intro w'
        go_simp
        with_reducible rfl
       rotate_left
       ·simp only [Act.put, List.setIfInBounds_toArray, List.set_cons_zero, List.set_cons_succ, i64_w, i32_w]
        rfl
       refine pure_ (i := 6) (N := some 60) (v := ?_) (a' := ?_) #[true, true, true, true, true, true, true, false, false, false, false, false, false, false, false, false, false, false, false] rfl rfl (any_of HT_.out (by kernel_rfl)) (fun _ _ _ h => h) (Or.inl ⟨by rfl, ?_⟩) ?_ ?_
       rotate_left
       ·intro w'
        go_simp
        with_reducible rfl
       rotate_left
       ·simp only [Act.put, List.setIfInBounds_toArray, List.set_cons_zero, List.set_cons_succ, i64_w, i32_w]
        rfl
       refine pure_ (i := 7) (N := some 61) (v := ?_) (a' := ?_) #[true, true, true, true, true, true, true, true, false, false, false, false, false, false, false, false, false, false, false] rfl rfl (any_of HT_.out (by kernel_rfl)) (fun _ _ _ h => h) (Or.inl ⟨by rfl, ?_⟩) ?_ ?_
       rotate_left
       ·intro w'
        go_simp
        with_reducible rfl
       rotate_left
       ·simp only [Act.put, List.setIfInBounds_toArray, List.set_cons_zero, List.set_cons_succ, i64_w, i32_w]
        rfl
       refine pure_ (i := 8) (N := some 62) (v := ?_) (a' := ?_) #[true, true, true, true, true, true, true, true, true, false, false, false, false, false, false, false, false, false, false] rfl rfl (any_of HT_.out (by kernel_rfl)) (fun _ _ _ h => h) (Or.inl ⟨by rfl, ?_⟩) ?_ ?_
       rotate_left
       ·intro w'
        go_simp
        with_reducible rfl
       rotate_left
       ·simp only [Act.put, List.setIfInBounds_toArray, List.set_cons_zero, List.set_cons_succ, i64_w, i32_w]
        rfl
       refine pure_ (i := 9) (N := some 63) (v := undef) (a' := ?_) #[true, true, true, true, true, true, true, true, true, true, false, false, false, false, false, false, false, false, false] rfl rfl (any_of HT_.out (by kernel_rfl)) (fun _ _ _ h => h) (Or.inr ⟨by rfl, rfl⟩) ?_ ?_
       rotate_left
       ·simp only [Act.put, List.setIfInBounds_toArray, List.set_cons_zero, List.set_cons_succ, i64_w, i32_w]
        rfl
       refine pure_ (i := 10) (N := some 64) (v := undef) (a' := ?_) #[true, true, true, true, true, true, true, true, true, true, true, false, false, false, false, false, false, false, false] rfl rfl (any_of HT_.out (by kernel_rfl)) (fun _ _ _ h => h) (Or.inr ⟨by rfl, rfl⟩) ?_ ?_
       rotate_left
       ·simp only [Act.put, List.setIfInBounds_toArray, List.set_cons_zero, List.set_cons_succ, i64_w, i32_w]
        rfl
       refine pure_ (i := 11) (N := some 65) (v := undef) (a' := ?_) #[true, true, true, true, true, true, true, true, true, true, true, true, false, false, false, false, false, false, false] rfl rfl (any_of HT_.out (by kernel_rfl)) (fun _ _ _ h => h) (Or.inr ⟨by rfl, rfl⟩) ?_ ?_
       rotate_left
       ·simp only [Act.put, List.setIfInBounds_toArray, List.set_cons_zero, List.set_cons_succ, i64_w, i32_w]
        rfl
       refine pure_ (i := 12) (N := some 66) (v := undef) (a' := ?_) #[true, true, true, true, true, true, true, true, true, true, true, true, true, false, false, false, false, false, false] rfl rfl (any_of HT_.out (by kernel_rfl)) (fun _ _ _ h => h) (Or.inr ⟨by rfl, rfl⟩) ?_ ?_
       rotate_left
       ·simp only [Act.put, List.setIfInBounds_toArray, List.set_cons_zero, List.set_cons_succ, i64_w, i32_w]
        rfl
       refine pure_ (i := 13) (N := some 67) (v := undef) (a' := ?_) #[true, true, true, true, true, true, true, true, true, true, true, true, true, true, false, false, false, false, false] rfl rfl (any_of HT_.out (by kernel_rfl)) (fun _ _ _ h => h) (Or.inr ⟨by rfl, rfl⟩) ?_ ?_
       rotate_left
       ·simp only [Act.put, List.setIfInBounds_toArray, List.set_cons_zero, List.set_cons_succ, i64_w, i32_w]
        rfl
       refine pure_ (i := 14) (N := some 68) (v := undef) (a' := ?_) #[true, true, true, true, true, true, true, true, true, true, true, true, true, true, true, false, false, false, false] rfl rfl (any_of HT_.out (by kernel_rfl)) (fun _ _ _ h => h) (Or.inr ⟨by rfl, rfl⟩) ?_ ?_
       rotate_left
       ·simp only [Act.put, List.setIfInBounds_toArray, List.set_cons_zero, List.set_cons_succ, i64_w, i32_w]
        rfl
       refine pure_ (i := 15) (N := some 69) (v := undef) (a' := ?_) #[true, true, true, true, true, true, true, true, true, true, true, true, true, true, true, true, false, false, false] rfl rfl (any_of HT_.out (by kernel_rfl)) (fun _ _ _ h => h) (Or.inr ⟨by rfl, rfl⟩) ?_ ?_
       rotate_left
       ·simp only [Act.put, List.setIfInBounds_toArray, List.set_cons_zero, List.set_cons_succ, i64_w, i32_w]
        rfl
       refine pure_ (i := 16) (N := some 70) (v := undef) (a' := ?_) #[true, true, true, true, true, true, true, true, true, true, true, true, true, true, true, true, true, false, false] rfl rfl (any_of HT_.out (by kernel_rfl)) (fun _ _ _ h => h) (Or.inr ⟨by rfl, rfl⟩) ?_ ?_
       rotate_left
       ·simp only [Act.put, List.setIfInBounds_toArray, List.set_cons_zero, List.set_cons_succ, i64_w, i32_w]
        rfl
       refine pure_ (i := 17) (N := some 71) (v := undef) (a' := ?_) #[true, true, true, true, true, true, true, true, true, true, true, true, true, true, true, true, true, true, false] rfl rfl (any_of HT_.out (by kernel_rfl)) (fun _ _ _ h => h) (Or.inr ⟨by rfl, rfl⟩) ?_ ?_
       rotate_left
       ·simp only [Act.put, List.setIfInBounds_toArray, List.set_cons_zero, List.set_cons_succ, i64_w, i32_w]
        rfl
       refine pure_ (i := 18) (N := some 72) (v := ?_) (a' := ?_) #[true, true, true, true, true, true, true, true, true, true, true, true, true, true, true, true, true, true, true] rfl rfl (any_of HT_.out (by kernel_rfl)) (fun _ _ _ h => h) (Or.inl ⟨by rfl, ?_⟩) ?_ ?_
       rotate_left
       ·intro w'
        go_simp
        with_reducible rfl
       rotate_left
       ·simp only [Act.put, List.setIfInBounds_toArray, List.set_cons_zero, List.set_cons_succ, i64_w, i32_w]
        rfl
       refine done_ (done_of HT_.out (by kernel_rfl)) ?_
       try go_wp2
       go_meet
       case rel => exact ⟨_, (true), (by first | rfl | (simp; done) | (simp [*]; done)), H', ⟨by have := HK1.out; first | omega | exact Nat.le_refl _⟩, ⟨kN (Kd.N_mono HO_586001.out (fun _ hk => ⟨hk.1, ⟨hk.2.2.1, ⟨hk.2.2.2.1, ⟨hk.2.2.2.2.1, ⟨hk.2.2.2.2.2.1, hk.2.2.2.2.2.2⟩⟩⟩⟩⟩))⟩, ⟨kN (Kd.N_mono HO_587001.out (fun _ hk => ⟨hk.2.1, ⟨hk.2.2.2.1, ⟨hk.2.2.2.2.1, ⟨hk.2.2.2.2.2.1, ⟨hk.2.2.2.2.2.2.1, hk.2.2.2.2.2.2.2⟩⟩⟩⟩⟩))⟩, ⟨kN (Kd.N_mono HO598.out (fun _ hk => ⟨hk.2.1, ⟨hk.2.2.1, ⟨hk.2.2.2.2.1, ⟨hk.2.2.2.2.2.1, ⟨hk.2.2.2.2.2.2.1, hk.2.2.2.2.2.2.2⟩⟩⟩⟩⟩))⟩, ⟨by (with_reducible repeat (first | refine blk_drewN ?_ _ | refine blk_drew ?_ | refine blk_alloc ?_ _)); exact BK576.out⟩, ⟨by (with_reducible repeat (first | refine blk_drewN ?_ _ | refine blk_drew ?_ | refine blk_alloc ?_ _)); exact BK585.out⟩, ⟨by (with_reducible repeat (first | refine blk_drewN ?_ _ | refine blk_drew ?_ | refine blk_alloc ?_ _)); exact BK586.out⟩, ⟨by (with_reducible repeat (first | refine blk_drewN ?_ _ | refine blk_drew ?_ | refine blk_alloc ?_ _)); exact BK600.out⟩, ⟨bb⟩⟩
      ·rw [if_neg c53] at H
       have c53b0 : ((t599 == 0) != x7_1) = false := by simpa using c53
       (try (have c53b1 : decide ((t599 == 0) = x7_1) = true := by simpa using c53))
       (try (have c53b2 : ((t599 == 0) == x7_1) = true := by simpa using c53))
       clear c53
       (first | rw [c53b0] | (simp only [i64_w, i32_w]; rw [c53b0]) | skip)
       by_cases c57 : x7_1 = true
       ·subst c57
        have H1 : ((graph_Value.f k1 t595 t596).bind fun bt602 => ((graph_Value.f k1 t577 t578).bind fun bt608 => ((pack_Equal.f bt602.1 bt602.2.1 bt602.2.2.1 bt602.2.2.2 bt608.1 bt608.2.1 bt608.2.2.1 bt608.2.2.2).bind fun t614 => (precinctlaw12_GraphBack.j1 k1 l1 (!t614))))) = some r := by rw [if_pos rfl] at H; exact H
        clear H
        have H := H1
        clear H1
        replace H := Option.bind_eq_some_iff.mp H
        obtain ⟨⟨t602, t603, t604, t605⟩, A580, H⟩ := H
        replace H : ((graph_Value.f k1 t577 t578).bind fun bt608 => ((pack_Equal.f t602 t603 t604 t605 bt608.1 bt608.2.1 bt608.2.2.1 bt608.2.2.2).bind fun t614 => (precinctlaw12_GraphBack.j1 k1 l1 (!t614)))) = some r := H
        have A58 := Aside0.mk A580
        clear A580
        replace H := Option.bind_eq_some_iff.mp H
        obtain ⟨⟨t608, t609, t610, t611⟩, A590, H⟩ := H
        replace H : ((pack_Equal.f t602 t603 t604 t605 t608 t609 t610 t611).bind fun t614 => (precinctlaw12_GraphBack.j1 k1 l1 (!t614))) = some r := H
        have A59 := Aside0.mk A590
        clear A590
        replace H := Option.bind_eq_some_iff.mp H
        obtain ⟨t614, A600, H⟩ := H
        replace H : (precinctlaw12_GraphBack.j1 k1 l1 (!t614)) = some r := H
        have A60 := Aside0.mk A600
        clear A600
        have H' := Aside0.mk H
        clear H
        try go_wp2
        have n0_ : Aside0 (Kd.N k48 48 ((w45.setCell ⟨gb600, 0, none⟩ (.string t595)).setCell ⟨gb600, 1, none⟩ (.slice Ao50 t596.length co50)) w.heap.size (fun k_ => some k_ ≠ (.slice Ao15 t582.length co15 : Value).ownBlock ∧ some k_ ≠ (.slice Ao43 t592.length co43 : Value).ownBlock ∧ some k_ ≠ (.slice Ao50 t596.length co50 : Value).ownBlock ∧ k_ ≠ gb576 ∧ k_ ≠ gb585 ∧ k_ ≠ gb586 ∧ k_ ≠ gb600) (.slice Ao12 t578.length co12) t578) := ⟨kN (Kd.N_mono (Kd.N_far (p := ⟨gb600, 1, none⟩) (Kd.N_far (p := ⟨gb600, 0, none⟩) (Kd.N_mono HO_22.out (fun k_ hk => (⟨hk, hk.2⟩ : _ ∧ k_ ≠ gb600))) (fun _ hk => hk.2) (.string t595)) (fun _ hk => hk.2) (.slice Ao50 t596.length co50)) (fun _ hk => ⟨hk.1.1.1.1.1, ⟨hk.1.1.1.2, ⟨hk.1.1.2, ⟨hk.1.1.1.1.2.1, ⟨hk.1.1.1.1.2.2.1, ⟨hk.1.1.1.1.2.2.2, hk.1.2⟩⟩⟩⟩⟩⟩))⟩
        have n1_ : Aside0 (Kd.N k48 48 ((w45.setCell ⟨gb600, 0, none⟩ (.string t595)).setCell ⟨gb600, 1, none⟩ (.slice Ao50 t596.length co50)) w.heap.size (fun k_ => some k_ ≠ (.slice Ao15 t582.length co15 : Value).ownBlock ∧ some k_ ≠ (.slice Ao43 t592.length co43 : Value).ownBlock ∧ some k_ ≠ (.slice Ao50 t596.length co50 : Value).ownBlock ∧ k_ ≠ gb576 ∧ k_ ≠ gb585 ∧ k_ ≠ gb586 ∧ k_ ≠ gb600) (.slice Ao12 t578.length co12) t578) := ⟨kN (Kd.N_mono (Kd.N_far (p := ⟨gb600, 1, none⟩) (Kd.N_far (p := ⟨gb600, 0, none⟩) (Kd.N_mono HO_586001.out (fun k_ hk => (⟨hk, hk.2⟩ : _ ∧ k_ ≠ gb600))) (fun _ hk => hk.2) (.string t595)) (fun _ hk => hk.2) (.slice Ao50 t596.length co50)) (fun _ hk => ⟨hk.1.1.1.1.1, ⟨hk.1.1.1.2, ⟨hk.1.1.2, ⟨hk.1.1.1.1.2.1, ⟨hk.1.1.1.1.2.2.1, ⟨hk.1.1.1.1.2.2.2, hk.1.2⟩⟩⟩⟩⟩⟩))⟩
        have n2_ : Aside0 (Kd.N k125 125 ((w45.setCell ⟨gb600, 0, none⟩ (.string t595)).setCell ⟨gb600, 1, none⟩ (.slice Ao50 t596.length co50)) w.heap.size (fun k_ => some k_ ≠ (.slice Ao12 t578.length co12 : Value).ownBlock ∧ some k_ ≠ (.slice Ao12 t578.length co12 : Value).ownBlock ∧ some k_ ≠ (.slice Ao43 t592.length co43 : Value).ownBlock ∧ some k_ ≠ (.slice Ao50 t596.length co50 : Value).ownBlock ∧ k_ ≠ gb576 ∧ k_ ≠ gb585 ∧ k_ ≠ gb586 ∧ k_ ≠ gb600) (.slice Ao15 t582.length co15) t582) := ⟨kN (Kd.N_mono (Kd.N_far (p := ⟨gb600, 1, none⟩) (Kd.N_far (p := ⟨gb600, 0, none⟩) (Kd.N_mono HO_587001.out (fun k_ hk => (⟨hk, hk.2⟩ : _ ∧ k_ ≠ gb600))) (fun _ hk => hk.2) (.string t595)) (fun _ hk => hk.2) (.slice Ao50 t596.length co50)) (fun _ hk => ⟨hk.1.1.1.1.1, ⟨hk.1.1.1.1.2.1, ⟨hk.1.1.1.2, ⟨hk.1.1.2, ⟨hk.1.1.1.1.2.2.1, ⟨hk.1.1.1.1.2.2.2.1, ⟨hk.1.1.1.1.2.2.2.2, hk.1.2⟩⟩⟩⟩⟩⟩⟩))⟩
        have n3_ : Aside0 (Kd.N k54 54 ((w45.setCell ⟨gb600, 0, none⟩ (.string t595)).setCell ⟨gb600, 1, none⟩ (.slice Ao50 t596.length co50)) w.heap.size (fun k_ => some k_ ≠ (.slice Ao12 t578.length co12 : Value).ownBlock ∧ some k_ ≠ (.slice Ao12 t578.length co12 : Value).ownBlock ∧ some k_ ≠ (.slice Ao15 t582.length co15 : Value).ownBlock ∧ some k_ ≠ (.slice Ao50 t596.length co50 : Value).ownBlock ∧ k_ ≠ gb576 ∧ k_ ≠ gb585 ∧ k_ ≠ gb586 ∧ k_ ≠ gb600) (.slice Ao43 t592.length co43) t592) := ⟨kN (Kd.N_mono (Kd.N_far (p := ⟨gb600, 1, none⟩) (Kd.N_far (p := ⟨gb600, 0, none⟩) (Kd.N_mono HO594.out (fun k_ hk => (⟨hk, hk.2⟩ : _ ∧ k_ ≠ gb600))) (fun _ hk => hk.2) (.string t595)) (fun _ hk => hk.2) (.slice Ao50 t596.length co50)) (fun _ hk => ⟨hk.1.1.1.1, ⟨hk.1.1.1.2.1, ⟨hk.1.1.1.2.2.1, ⟨hk.1.1.2, ⟨hk.1.1.1.2.2.2.1, ⟨hk.1.1.1.2.2.2.2.1, ⟨hk.1.1.1.2.2.2.2.2, hk.1.2⟩⟩⟩⟩⟩⟩⟩))⟩
        have n4_ : Aside0 (Kd.N k48 48 ((w45.setCell ⟨gb600, 0, none⟩ (.string t595)).setCell ⟨gb600, 1, none⟩ (.slice Ao50 t596.length co50)) w.heap.size (fun k_ => some k_ ≠ (.slice Ao12 t578.length co12 : Value).ownBlock ∧ some k_ ≠ (.slice Ao12 t578.length co12 : Value).ownBlock ∧ some k_ ≠ (.slice Ao15 t582.length co15 : Value).ownBlock ∧ some k_ ≠ (.slice Ao43 t592.length co43 : Value).ownBlock ∧ k_ ≠ gb576 ∧ k_ ≠ gb585 ∧ k_ ≠ gb586 ∧ k_ ≠ gb600) (.slice Ao50 t596.length co50) t596) := ⟨kN (Kd.N_mono (Kd.N_far (p := ⟨gb600, 1, none⟩) (Kd.N_far (p := ⟨gb600, 0, none⟩) (Kd.N_mono HO598.out (fun k_ hk => (⟨hk, hk.2⟩ : _ ∧ k_ ≠ gb600))) (fun _ hk => hk.2) (.string t595)) (fun _ hk => hk.2) (.slice Ao50 t596.length co50)) (fun _ hk => ⟨hk.1.1.1, ⟨hk.1.1.2.1, ⟨hk.1.1.2.2.1, ⟨hk.1.1.2.2.2.1, ⟨hk.1.1.2.2.2.2.1, ⟨hk.1.1.2.2.2.2.2.1, ⟨hk.1.1.2.2.2.2.2.2, hk.1.2⟩⟩⟩⟩⟩⟩⟩))⟩
        have n5_ : Aside0 (((w45.setCell ⟨gb600, 0, none⟩ (.string t595)).setCell ⟨gb600, 1, none⟩ (.slice Ao50 t596.length co50)).heap[gb576]? = some (.cells #[.string a0_0, .slice A0_1 l0_1.length c0_1] 24 (0, 0))) := ⟨by (with_reducible repeat (first | refine blk_drewN ?_ _ | refine blk_drew ?_ | refine blk_alloc ?_ _)); refine blk_far ?_ NB576_600.out _; (with_reducible repeat (first | refine blk_drewN ?_ _ | refine blk_drew ?_ | refine blk_alloc ?_ _)); refine blk_far ?_ NB576_600.out _; (with_reducible repeat (first | refine blk_drewN ?_ _ | refine blk_drew ?_ | refine blk_alloc ?_ _)); exact BK576.out⟩
        have n6_ : Aside0 (((w45.setCell ⟨gb600, 0, none⟩ (.string t595)).setCell ⟨gb600, 1, none⟩ (.slice Ao50 t596.length co50)).heap[gb585]? = some (.cells #[.string t577, .slice Ao12 t578.length co12] 27 (0, 0))) := ⟨by (with_reducible repeat (first | refine blk_drewN ?_ _ | refine blk_drew ?_ | refine blk_alloc ?_ _)); refine blk_far ?_ NB585_600.out _; (with_reducible repeat (first | refine blk_drewN ?_ _ | refine blk_drew ?_ | refine blk_alloc ?_ _)); refine blk_far ?_ NB585_600.out _; (with_reducible repeat (first | refine blk_drewN ?_ _ | refine blk_drew ?_ | refine blk_alloc ?_ _)); exact BK585.out⟩
        have n7_ : Aside0 (((w45.setCell ⟨gb600, 0, none⟩ (.string t595)).setCell ⟨gb600, 1, none⟩ (.slice Ao50 t596.length co50)).heap[gb586]? = some (.cells #[.string t581, .slice Ao15 t582.length co15] 30 (0, 0))) := ⟨by (with_reducible repeat (first | refine blk_drewN ?_ _ | refine blk_drew ?_ | refine blk_alloc ?_ _)); refine blk_far ?_ NB586_600.out _; (with_reducible repeat (first | refine blk_drewN ?_ _ | refine blk_drew ?_ | refine blk_alloc ?_ _)); refine blk_far ?_ NB586_600.out _; (with_reducible repeat (first | refine blk_drewN ?_ _ | refine blk_drew ?_ | refine blk_alloc ?_ _)); exact BK586.out⟩
        have n8_ : Aside0 (((w45.setCell ⟨gb600, 0, none⟩ (.string t595)).setCell ⟨gb600, 1, none⟩ (.slice Ao50 t596.length co50)).heap[gb600]? = some (.cells #[.string t595, .slice Ao50 t596.length co50] 27 (0, 0))) := ⟨by (with_reducible repeat (first | refine blk_drewN ?_ _ | refine blk_drew ?_ | refine blk_alloc ?_ _)); refine blk_put (cs := #[.string t595, .slice none 0 0]) ?_ 1 _ rfl; (with_reducible repeat (first | refine blk_drewN ?_ _ | refine blk_drew ?_ | refine blk_alloc ?_ _)); refine blk_put (cs := #[.string (⟨#[]⟩ : ByteArray), .slice none 0 0]) ?_ 0 _ rfl; (with_reducible repeat (first | refine blk_drewN ?_ _ | refine blk_drew ?_ | refine blk_alloc ?_ _)); exact BK600.out⟩
        have n9_ : Aside0 (Below w.heap.size w ((w45.setCell ⟨gb600, 0, none⟩ (.string t595)).setCell ⟨gb600, 1, none⟩ (.slice Ao50 t596.length co50))) := ⟨bb⟩
        (try clear HO_22)
        (try clear HO_586001)
        (try clear HO_587001)
        (try clear HO594)
        (try clear HO598)
        (try clear BK576)
        (try clear BK585)
        (try clear BK586)
        (try clear BK600)
        (try clear HB)
        generalize ((w45.setCell ⟨gb600, 0, none⟩ (.string t595)).setCell ⟨gb600, 1, none⟩ (.slice Ao50 t596.length co50)) = w61 at n0_ n1_ n2_ n3_ n4_ n5_ n6_ n7_ n8_ n9_ ⊢
        have HO_22 := n0_
        have HO_586001 := n1_
        have HO_587001 := n2_
        have HO594 := n3_
        have HO598 := n4_
        have BK576 := n5_
        have BK585 := n6_
        have BK586 := n7_
        have BK600 := n8_
        have HB := n9_
        clear n0_ n1_ n2_ n3_ n4_ n5_ n6_ n7_ n8_ n9_
        have n0_ := Aside0.mk (Kd.N_drew HO_22.out)
        have n1_ := Aside0.mk (Kd.N_drew HO_586001.out)
        have n2_ := Aside0.mk (Kd.N_drew HO_587001.out)
        have n3_ := Aside0.mk (Kd.N_drew HO594.out)
        have n4_ := Aside0.mk (Kd.N_drew HO598.out)
        have n5_ := Aside0.mk (blk_drew BK576.out)
        have n6_ := Aside0.mk (blk_drew BK585.out)
        have n7_ := Aside0.mk (blk_drew BK586.out)
        have n8_ := Aside0.mk (blk_drew BK600.out)
        have n9_ := Aside0.mk (below_drew1 HB.out)
        clear HO_22
        clear HO_586001
        clear HO_587001
        clear HO594
        clear HO598
        clear BK576
        clear BK585
        clear BK586
        clear BK600
        clear HB
        have HO_22 := n0_
        have HO_586001 := n1_
        have HO_587001 := n2_
        have HO594 := n3_
        have HO598 := n4_
        have BK576 := n5_
        have BK585 := n6_
        have BK586 := n7_
        have BK600 := n8_
        have HB := n9_
        clear n0_ n1_ n2_ n3_ n4_ n5_ n6_ n7_ n8_ n9_
        refine start_ (n := 19) (S := fun w' => w'.cell? ⟨gb600, 0, none⟩ = some (.string t595) ∧ w'.cell? ⟨gb600, 1, none⟩ = some (.slice Ao50 t596.length co50) ∧ w'.cell? ⟨gb585, 0, none⟩ = some (.string t577) ∧ w'.cell? ⟨gb585, 1, none⟩ = some (.slice Ao12 t578.length co12)) (ds := []) #[false, false, false, false, false, false, false, false, false, false, false, false, false, false, false, false, false, false, false] (by kernel_rfl) rfl rfl ⟨(blk_cell BK600.out 0).trans rfl, (blk_cell BK600.out 1).trans rfl, (blk_cell BK585.out 0).trans rfl, (blk_cell BK585.out 1).trans rfl⟩ (fun hHeld => ?_); refine with_tabW precinctlaw12_GraphBack.tab9 precinctlaw12_GraphBack.bits9 (fun HT_ HW_ => ?_)
        generalize w61.drew = w62 at HO_22 HO_586001 HO_587001 HO594 HO598 BK576 BK585 BK586 BK600 HB hHeld ⊢
        refine one_ (i := 0) (N := some 54) #[true, false, false, false, false, false, false, false, false, false, false, false, false, false, false, false, false, false, false] rfl rfl (one_of HT_.out (by kernel_rfl)) (by decide) (fun K hK => ?_)
        refine goes_ Try.func17 (by kernel_rfl) rfl #[] (by rfl) rfl rfl ag ?_
        with_reducible refine (precinctlaw12_wakes.calls  true _ A51.out).mono ?_
        rintro e w63 ⟨rfl, hb⟩
        refine ⟨_, rfl, ?_⟩
        have n0_ := Aside0.mk (Kd.N_below (kN HO_22.out) hb)
        have n1_ := Aside0.mk (Kd.N_below (kN HO_586001.out) hb)
        have n2_ := Aside0.mk (Kd.N_below (kN HO_587001.out) hb)
        have n3_ := Aside0.mk (Kd.N_below (kN HO594.out) hb)
        have n4_ := Aside0.mk (Kd.N_below (kN HO598.out) hb)
        have n5_ := Aside0.mk (blk_below (rb BK576.out) hb)
        have n6_ := Aside0.mk (blk_below (rb BK585.out) hb)
        have n7_ := Aside0.mk (blk_below (rb BK586.out) hb)
        have n8_ := Aside0.mk (blk_below (rb BK600.out) hb)
        have n9_ := Aside0.mk (below_step bb hb)
        clear HO_22
        clear HO_586001
        clear HO_587001
        clear HO594
        clear HO598
        clear BK576
        clear BK585
        clear BK586
        clear BK600
        clear HB
        have HO_22 := n0_
        have HO_586001 := n1_
        have HO_587001 := n2_
        have HO594 := n3_
        have HO598 := n4_
        have BK576 := n5_
        have BK585 := n6_
        have BK586 := n7_
        have BK600 := n8_
        have HB := n9_
        clear n0_ n1_ n2_ n3_ n4_ n5_ n6_ n7_ n8_ n9_
        (try clear hb)
        (try clear hb2)
        (try clear hk)
        (try clear hi)
        refine hK.out _ _ ⟨(blk_cell BK600.out 0).trans rfl, (blk_cell BK600.out 1).trans rfl, (blk_cell BK585.out 0).trans rfl, (blk_cell BK585.out 1).trans rfl⟩ (fun hHeld => ?_)
        clear hK K
        refine norm_ (a' := ?_) ?_ ?_
        rotate_left
        ·show Act.put _ (some 54) _ = _
         simp only [Act.put, List.setIfInBounds_toArray, List.set_cons_zero, List.set_cons_succ, i64_w, i32_w]
         rfl
        refine pure_ (i := 1) (N := some 55) (v := ?_) (a' := ?_) #[true, true, false, false, false, false, false, false, false, false, false, false, false, false, false, false, false, false, false] rfl rfl (any_of HT_.out (by kernel_rfl)) (fun _ _ _ h => h) (Or.inl ⟨by rfl, ?_⟩) ?_ ?_
        rotate_left
        ·intro w'
         go_simp
         with_reducible rfl
        rotate_left
        ·simp only [Act.put, List.setIfInBounds_toArray, List.set_cons_zero, List.set_cons_succ, i64_w, i32_w]
         rfl
        refine pure_ (i := 2) (N := some 56) (v := ?_) (a' := ?_) #[true, true, true, false, false, false, false, false, false, false, false, false, false, false, false, false, false, false, false] rfl rfl (any_of HT_.out (by kernel_rfl)) (fun _ _ _ h => h) (Or.inl ⟨by rfl, ?_⟩) ?_ ?_
        rotate_left
        ·intro w'
         go_simp
         with_reducible rfl
        rotate_left
        ·simp only [Act.put, List.setIfInBounds_toArray, List.set_cons_zero, List.set_cons_succ, i64_w, i32_w]
         rfl
        refine pure_ (i := 3) (N := some 57) (v := ?_) (a' := ?_) #[true, true, true, true, false, false, false, false, false, false, false, false, false, false, false, false, false, false, false] rfl rfl (any_of HT_.out (by kernel_rfl)) (fun _ _ _ h => h) (Or.inl ⟨by rfl, ?_⟩) ?_ ?_
        rotate_left
        ·intro w'
         go_simp
         with_reducible rfl
        rotate_left
        ·simp only [Act.put, List.setIfInBounds_toArray, List.set_cons_zero, List.set_cons_succ, i64_w, i32_w]
         rfl
        refine pure_ (i := 4) (N := some 58) (v := ?_) (a' := ?_) #[true, true, true, true, true, false, false, false, false, false, false, false, false, false, false, false, false, false, false] rfl rfl (any_of HT_.out (by kernel_rfl)) (fun _ _ _ h => h) (Or.inl ⟨by rfl, ?_⟩) ?_ ?_
        rotate_left
        ·intro w'
         go_simp
         with_reducible rfl
        rotate_left
        ·simp only [Act.put, List.setIfInBounds_toArray, List.set_cons_zero, List.set_cons_succ, i64_w, i32_w]
         rfl
        refine pure_ (i := 5) (N := some 59) (v := ?_) (a' := ?_) #[true, true, true, true, true, true, false, false, false, false, false, false, false, false, false, false, false, false, false] rfl rfl (any_of HT_.out (by kernel_rfl)) (fun _ _ _ h => h) (Or.inl ⟨by rfl, ?_⟩) ?_ ?_
        rotate_left
        ·intro w'
         go_simp
         with_reducible rfl
        rotate_left
        ·simp only [Act.put, List.setIfInBounds_toArray, List.set_cons_zero, List.set_cons_succ, i64_w, i32_w]
         rfl
        refine pure_ (i := 6) (N := some 60) (v := ?_) (a' := ?_) #[true, true, true, true, true, true, true, false, false, false, false, false, false, false, false, false, false, false, false] rfl rfl (any_of HT_.out (by kernel_rfl)) (fun _ _ _ h => h) (Or.inl ⟨by rfl, ?_⟩) ?_ ?_
        rotate_left
        ·intro w'
         go_simp
         with_reducible rfl
        rotate_left
        ·simp only [Act.put, List.setIfInBounds_toArray, List.set_cons_zero, List.set_cons_succ, i64_w, i32_w]
         rfl
        refine pure_ (i := 7) (N := some 61) (v := ?_) (a' := ?_) #[true, true, true, true, true, true, true, true, false, false, false, false, false, false, false, false, false, false, false] rfl rfl (any_of HT_.out (by kernel_rfl)) (fun _ _ _ h => h) (Or.inl ⟨by rfl, ?_⟩) ?_ ?_
        rotate_left
        ·intro w'
         go_simp
         with_reducible rfl
        rotate_left
        ·simp only [Act.put, List.setIfInBounds_toArray, List.set_cons_zero, List.set_cons_succ, i64_w, i32_w]
         rfl
        refine pure_ (i := 8) (N := some 62) (v := ?_) (a' := ?_) #[true, true, true, true, true, true, true, true, true, false, false, false, false, false, false, false, false, false, false] rfl rfl (any_of HT_.out (by kernel_rfl)) (fun _ _ _ h => h) (Or.inl ⟨by rfl, ?_⟩) ?_ ?_
        rotate_left
        ·intro w'
         go_simp
         with_reducible rfl
        rotate_left
        ·simp only [Act.put, List.setIfInBounds_toArray, List.set_cons_zero, List.set_cons_succ, i64_w, i32_w]
         rfl
        refine pure_ (i := 9) (N := some 63) (v := ?_) (a' := ?_) #[true, true, true, true, true, true, true, true, true, true, false, false, false, false, false, false, false, false, false] rfl rfl (any_of HT_.out (by kernel_rfl)) (fun _ _ _ h => h) (Or.inl ⟨by rfl, ?_⟩) ?_ ?_
        rotate_left
        ·intro w'
         go_simp
         with_reducible rfl
        rotate_left
        ·simp only [Act.put, List.setIfInBounds_toArray, List.set_cons_zero, List.set_cons_succ, i64_w, i32_w]
         rfl
        refine pure_ (i := 10) (N := some 64) (v := ?_) (a' := ?_) #[true, true, true, true, true, true, true, true, true, true, true, false, false, false, false, false, false, false, false] rfl rfl (any_of HT_.out (by kernel_rfl)) (fun _ _ _ h => h) (Or.inl ⟨by rfl, ?_⟩) ?_ ?_
        rotate_left
        ·intro w'
         go_simp
         with_reducible rfl
        rotate_left
        ·simp only [Act.put, List.setIfInBounds_toArray, List.set_cons_zero, List.set_cons_succ, i64_w, i32_w]
         rfl
        refine take_ (i := 11) (N := some 65) (v := ?_) (a' := ?_) #[true, true, true, true, true, true, true, true, true, true, true, true, false, false, false, false, false, false, false] rfl rfl (take_ofW HT_.out HW_.out (by kernel_rfl)) (fun _ _ _ h => h) (Or.inl ⟨by rfl, ?_⟩) hHeld ?_ ?_
        rotate_left
        ·rintro w' ⟨s0, s1, s2, s3⟩
         go_simp
         with_reducible rfl
        rotate_left
        ·simp only [Act.put, List.setIfInBounds_toArray, List.set_cons_zero, List.set_cons_succ, i64_w, i32_w]
         rfl
        refine take_ (i := 13) (N := some 67) (v := ?_) (a' := ?_) #[true, true, true, true, true, true, true, true, true, true, true, true, false, true, false, false, false, false, false] rfl rfl (take_ofW HT_.out HW_.out (by kernel_rfl)) (fun _ _ _ h => h) (Or.inl ⟨by rfl, ?_⟩) hHeld ?_ ?_
        rotate_left
        ·rintro w' ⟨s0, s1, s2, s3⟩
         go_simp
         with_reducible rfl
        rotate_left
        ·simp only [Act.put, List.setIfInBounds_toArray, List.set_cons_zero, List.set_cons_succ, i64_w, i32_w]
         rfl
        refine one_ (i := 12) (N := some 66) #[true, true, true, true, true, true, true, true, true, true, true, true, true, true, false, false, false, false, false] rfl rfl (one_of HT_.out (by kernel_rfl)) (by decide) (fun K hK => ?_)
        refine goes_ Try.func25 (by kernel_rfl) rfl #[.agg #[.string t595, .slice Ao50 t596.length co50]] (by rfl) rfl rfl ag ?_
        with_reducible refine (graph_Value.calls k1 t595 _ _ t596 t602 t603 t604 t605 _ ?side1 ?side2 A58.out).mono ?_
        (case side1 => repeat (first | exact (Kd.N_reads' HO598.out).2.2 | (with_reducible refine Kd.C_alloc ?_ _) | (with_reducible refine Kd.C_drewN ?_ _) | (with_reducible refine Kd.C_drew ?_)))
        (case side2 => exact (Kd.N_reads' HO598.out).2.1)
        rintro e w64 ⟨v606, rfl, ho0, hb⟩
        refine ⟨_, rfl, ?_⟩
        have n0_ := Aside0.mk (Kd.N_elder' (kN HO_22.out) (by first | exact Kd.N_base ho0 | exact Kd.N_base (Kd.R_N ho0) | exact Kd.N_base (Kd.S_N ho0)) hb)
        have n1_ := Aside0.mk (Kd.N_elder' (kN HO_586001.out) (by first | exact Kd.N_base ho0 | exact Kd.N_base (Kd.R_N ho0) | exact Kd.N_base (Kd.S_N ho0)) hb)
        have n2_ := Aside0.mk (Kd.N_elder' (kN HO_587001.out) (by first | exact Kd.N_base ho0 | exact Kd.N_base (Kd.R_N ho0) | exact Kd.N_base (Kd.S_N ho0)) hb)
        have n3_ := Aside0.mk (Kd.N_elder' (kN HO594.out) (by first | exact Kd.N_base ho0 | exact Kd.N_base (Kd.R_N ho0) | exact Kd.N_base (Kd.S_N ho0)) hb)
        have n4_ := Aside0.mk (Kd.N_elder' (kN HO598.out) (by first | exact Kd.N_base ho0 | exact Kd.N_base (Kd.R_N ho0) | exact Kd.N_base (Kd.S_N ho0)) hb)
        have n5_ := Aside0.mk (Kd.N_lower (Kd.N_mono (ok' := fun k_ => some k_ ≠ (.slice Ao12 t578.length co12 : Value).ownBlock ∧ some k_ ≠ (.slice Ao12 t578.length co12 : Value).ownBlock ∧ some k_ ≠ (.slice Ao15 t582.length co15 : Value).ownBlock ∧ some k_ ≠ (.slice Ao43 t592.length co43 : Value).ownBlock ∧ some k_ ≠ (.slice Ao50 t596.length co50 : Value).ownBlock ∧ k_ ≠ gb576 ∧ k_ ≠ gb585 ∧ k_ ≠ gb586 ∧ k_ ≠ gb600) ho0 (fun k_ hk_ => ⟨(Kd.fresh' (Kd.N_lt (kN HO_22.out)) k_ hk_), (Kd.fresh' (Kd.N_lt (kN HO_586001.out)) k_ hk_), (Kd.fresh' (Kd.N_lt (kN HO_587001.out)) k_ hk_), (Kd.fresh' (Kd.N_lt (kN HO594.out)) k_ hk_), (Kd.fresh' (Kd.N_lt (kN HO598.out)) k_ hk_), (Kd.freshB (rb BK576.out) k_ hk_), (Kd.freshB (rb BK585.out) k_ hk_), (Kd.freshB (rb BK586.out) k_ hk_), (Kd.freshB (rb BK600.out) k_ hk_)⟩)) (below_size bb))
        have n6_ := Aside0.mk (blk_below (rb BK576.out) hb)
        have n7_ := Aside0.mk (blk_below (rb BK585.out) hb)
        have n8_ := Aside0.mk (blk_below (rb BK586.out) hb)
        have n9_ := Aside0.mk (blk_below (rb BK600.out) hb)
        have n10_ := Aside0.mk (below_step bb hb)
        clear HO_22
        clear HO_586001
        clear HO_587001
        clear HO594
        clear HO598
        clear BK576
        clear BK585
        clear BK586
        clear BK600
        clear HB
        have HO_22 := n0_
        have HO_586001 := n1_
        have HO_587001 := n2_
        have HO594 := n3_
        have HO598 := n4_
        have HO607 := n5_
        have BK576 := n6_
        have BK585 := n7_
        have BK586 := n8_
        have BK600 := n9_
        have HB := n10_
        clear n0_ n1_ n2_ n3_ n4_ n5_ n6_ n7_ n8_ n9_ n10_
        (try clear hb)
        (try clear hb2)
        (try clear hk)
        (try clear hi)
        (try clear ho0)
        refine hK.out _ _ ⟨(blk_cell BK600.out 0).trans rfl, (blk_cell BK600.out 1).trans rfl, (blk_cell BK585.out 0).trans rfl, (blk_cell BK585.out 1).trans rfl⟩ (fun hHeld => ?_)
        clear hK K
        refine norm_ (a' := ?_) ?_ ?_
        rotate_left
        ·show Act.put _ (some 66) _ = _
         simp only [Act.put, List.setIfInBounds_toArray, List.set_cons_zero, List.set_cons_succ, i64_w, i32_w]
         rfl
        refine one_ (i := 14) (N := some 68) #[true, true, true, true, true, true, true, true, true, true, true, true, true, true, true, false, false, false, false] rfl rfl (one_of HT_.out (by kernel_rfl)) (by decide) (fun K hK => ?_)
        refine goes_ Try.func25 (by kernel_rfl) rfl #[.agg #[.string t577, .slice Ao12 t578.length co12]] (by rfl) rfl rfl ag ?_
        with_reducible refine (graph_Value.calls k1 t577 _ _ t578 t608 t609 t610 t611 _ ?side1 ?side2 A59.out).mono ?_
        (case side1 => repeat (first | exact (Kd.N_reads' HO_586001.out).2.2 | (with_reducible refine Kd.C_alloc ?_ _) | (with_reducible refine Kd.C_drewN ?_ _) | (with_reducible refine Kd.C_drew ?_)))
        (case side2 => exact (Kd.N_reads' HO_586001.out).2.1)
        rintro e w65 ⟨v612, rfl, ho0, hb⟩
        refine ⟨_, rfl, ?_⟩
        have n0_ := Aside0.mk (Kd.N_elder' (kN HO_22.out) (by first | exact Kd.N_base ho0 | exact Kd.N_base (Kd.R_N ho0) | exact Kd.N_base (Kd.S_N ho0)) hb)
        have n1_ := Aside0.mk (Kd.N_elder' (kN HO_586001.out) (by first | exact Kd.N_base ho0 | exact Kd.N_base (Kd.R_N ho0) | exact Kd.N_base (Kd.S_N ho0)) hb)
        have n2_ := Aside0.mk (Kd.N_elder' (kN HO_587001.out) (by first | exact Kd.N_base ho0 | exact Kd.N_base (Kd.R_N ho0) | exact Kd.N_base (Kd.S_N ho0)) hb)
        have n3_ := Aside0.mk (Kd.N_elder' (kN HO594.out) (by first | exact Kd.N_base ho0 | exact Kd.N_base (Kd.R_N ho0) | exact Kd.N_base (Kd.S_N ho0)) hb)
        have n4_ := Aside0.mk (Kd.N_elder' (kN HO598.out) (by first | exact Kd.N_base ho0 | exact Kd.N_base (Kd.R_N ho0) | exact Kd.N_base (Kd.S_N ho0)) hb)
        have n5_ := Aside0.mk (Kd.N_elder' (kN HO607.out) (by first | exact Kd.N_base ho0 | exact Kd.N_base (Kd.R_N ho0) | exact Kd.N_base (Kd.S_N ho0)) hb)
        have n6_ := Aside0.mk (Kd.N_lower (Kd.N_mono (ok' := fun k_ => some k_ ≠ (.slice Ao12 t578.length co12 : Value).ownBlock ∧ some k_ ≠ (.slice Ao12 t578.length co12 : Value).ownBlock ∧ some k_ ≠ (.slice Ao15 t582.length co15 : Value).ownBlock ∧ some k_ ≠ (.slice Ao43 t592.length co43 : Value).ownBlock ∧ some k_ ≠ (.slice Ao50 t596.length co50 : Value).ownBlock ∧ some k_ ≠ (v606 : Value).ownBlock ∧ k_ ≠ gb576 ∧ k_ ≠ gb585 ∧ k_ ≠ gb586 ∧ k_ ≠ gb600) ho0 (fun k_ hk_ => ⟨(Kd.fresh' (Kd.N_lt (kN HO_22.out)) k_ hk_), (Kd.fresh' (Kd.N_lt (kN HO_586001.out)) k_ hk_), (Kd.fresh' (Kd.N_lt (kN HO_587001.out)) k_ hk_), (Kd.fresh' (Kd.N_lt (kN HO594.out)) k_ hk_), (Kd.fresh' (Kd.N_lt (kN HO598.out)) k_ hk_), (Kd.fresh' (Kd.N_lt (kN HO607.out)) k_ hk_), (Kd.freshB (rb BK576.out) k_ hk_), (Kd.freshB (rb BK585.out) k_ hk_), (Kd.freshB (rb BK586.out) k_ hk_), (Kd.freshB (rb BK600.out) k_ hk_)⟩)) (below_size bb))
        have n7_ := Aside0.mk (blk_below (rb BK576.out) hb)
        have n8_ := Aside0.mk (blk_below (rb BK585.out) hb)
        have n9_ := Aside0.mk (blk_below (rb BK586.out) hb)
        have n10_ := Aside0.mk (blk_below (rb BK600.out) hb)
        have n11_ := Aside0.mk (below_step bb hb)
        clear HO_22
        clear HO_586001
        clear HO_587001
        clear HO594
        clear HO598
        clear HO607
        clear BK576
        clear BK585
        clear BK586
        clear BK600
        clear HB
        have HO_22 := n0_
        have HO_586001 := n1_
        have HO_587001 := n2_
        have HO594 := n3_
        have HO598 := n4_
        have HO607 := n5_
        have HO613 := n6_
        have BK576 := n7_
        have BK585 := n8_
        have BK586 := n9_
        have BK600 := n10_
        have HB := n11_
        clear n0_ n1_ n2_ n3_ n4_ n5_ n6_ n7_ n8_ n9_ n10_ n11_
        (try clear hb)
        (try clear hb2)
        (try clear hk)
        (try clear hi)
        (try clear ho0)
        obtain ⟨Ao66, co66, eo66⟩ := Kd.N_slice HO607.out
        (first | subst eo66 | (injection eo66 with f1_ f2_ f3_; have f4_ := f1_.symm; have f5_ := f3_.symm; clear f1_ f2_ f3_; subst f4_; subst f5_))
        obtain ⟨Ao67, co67, eo67⟩ := Kd.N_slice HO613.out
        (first | subst eo67 | (injection eo67 with f1_ f2_ f3_; have f4_ := f1_.symm; have f5_ := f3_.symm; clear f1_ f2_ f3_; subst f4_; subst f5_))
        refine hK.out _ _ ⟨(blk_cell BK600.out 0).trans rfl, (blk_cell BK600.out 1).trans rfl, (blk_cell BK585.out 0).trans rfl, (blk_cell BK585.out 1).trans rfl⟩ (fun hHeld => ?_)
        clear hK K
        refine norm_ (a' := ?_) ?_ ?_
        rotate_left
        ·show Act.put _ (some 68) _ = _
         simp only [Act.put, List.setIfInBounds_toArray, List.set_cons_zero, List.set_cons_succ, i64_w, i32_w]
         rfl
        refine one_ (i := 15) (N := some 69) #[true, true, true, true, true, true, true, true, true, true, true, true, true, true, true, true, false, false, false] rfl rfl (one_of HT_.out (by kernel_rfl)) (by decide) (fun K hK => ?_)
        refine goes_ Try.func27 (by kernel_rfl) rfl #[.agg #[.int .i64 t602, .int .i64 t603, .string t604, .slice Ao66 t605.length co66], .agg #[.int .i64 t608, .int .i64 t609, .string t610, .slice Ao67 t611.length co67]] (by rfl) rfl rfl ag ?_
        with_reducible refine (pack_Equal.calls t602 t603 t604 _ _ t605 t608 t609 t610 _ _ t611 t614 _ ?side1 ?side2 ?side3 ?side4 A60.out).mono ?_
        (case side1 => repeat (first | exact (Kd.N_reads' HO607.out).2.2 | (with_reducible refine Kd.C_alloc ?_ _) | (with_reducible refine Kd.C_drewN ?_ _) | (with_reducible refine Kd.C_drew ?_)))
        (case side2 => exact (Kd.N_reads' HO607.out).2.1)
        (case side3 => repeat (first | exact (Kd.N_reads' HO613.out).2.2 | (with_reducible refine Kd.C_alloc ?_ _) | (with_reducible refine Kd.C_drewN ?_ _) | (with_reducible refine Kd.C_drew ?_)))
        (case side4 => exact (Kd.N_reads' HO613.out).2.1)
        rintro e w68 ⟨rfl, hb⟩
        refine ⟨_, rfl, ?_⟩
        have n0_ := Aside0.mk (Kd.N_below (kN HO_22.out) hb)
        have n1_ := Aside0.mk (Kd.N_below (kN HO_586001.out) hb)
        have n2_ := Aside0.mk (Kd.N_below (kN HO_587001.out) hb)
        have n3_ := Aside0.mk (Kd.N_below (kN HO594.out) hb)
        have n4_ := Aside0.mk (Kd.N_below (kN HO598.out) hb)
        have n5_ := Aside0.mk (Kd.N_below (kN HO607.out) hb)
        have n6_ := Aside0.mk (Kd.N_below (kN HO613.out) hb)
        have n7_ := Aside0.mk (blk_below (rb BK576.out) hb)
        have n8_ := Aside0.mk (blk_below (rb BK585.out) hb)
        have n9_ := Aside0.mk (blk_below (rb BK586.out) hb)
        have n10_ := Aside0.mk (blk_below (rb BK600.out) hb)
        have n11_ := Aside0.mk (below_step bb hb)
        clear HO_22
        clear HO_586001
        clear HO_587001
        clear HO594
        clear HO598
        clear HO607
        clear HO613
        clear BK576
        clear BK585
        clear BK586
        clear BK600
        clear HB
        have HO_22 := n0_
        have HO_586001 := n1_
        have HO_587001 := n2_
        have HO594 := n3_
        have HO598 := n4_
        have HO607 := n5_
        have HO613 := n6_
        have BK576 := n7_
        have BK585 := n8_
        have BK586 := n9_
        have BK600 := n10_
        have HB := n11_
        clear n0_ n1_ n2_ n3_ n4_ n5_ n6_ n7_ n8_ n9_ n10_ n11_
        (try clear hb)
        (try clear hb2)
        (try clear hk)
        (try clear hi)
        refine hK.out _ _ ⟨(blk_cell BK600.out 0).trans rfl, (blk_cell BK600.out 1).trans rfl, (blk_cell BK585.out 0).trans rfl, (blk_cell BK585.out 1).trans rfl⟩ (fun hHeld => ?_)
        clear hK K
        refine norm_ (a' := ?_) ?_ ?_
        rotate_left
        ·show Act.put _ (some 69) _ = _
         simp only [Act.put, List.setIfInBounds_toArray, List.set_cons_zero, List.set_cons_succ, i64_w, i32_w]
         rfl
        refine pure_ (i := 16) (N := some 70) (v := ?_) (a' := ?_) #[true, true, true, true, true, true, true, true, true, true, true, true, true, true, true, true, true, false, false] rfl rfl (any_of HT_.out (by kernel_rfl)) (fun _ _ _ h => h) (Or.inl ⟨by rfl, ?_⟩) ?_ ?_
        rotate_left
        ·intro w'
         go_simp
         with_reducible rfl
        rotate_left
        ·simp only [Act.put, List.setIfInBounds_toArray, List.set_cons_zero, List.set_cons_succ, i64_w, i32_w]
         rfl
        refine pure_ (i := 17) (N := some 71) (v := ?_) (a' := ?_) #[true, true, true, true, true, true, true, true, true, true, true, true, true, true, true, true, true, true, false] rfl rfl (any_of HT_.out (by kernel_rfl)) (fun _ _ _ h => h) (Or.inl ⟨by rfl, ?_⟩) ?_ ?_
        rotate_left
        ·intro w'
         go_simp
         with_reducible rfl
        rotate_left
        ·simp only [Act.put, List.setIfInBounds_toArray, List.set_cons_zero, List.set_cons_succ, i64_w, i32_w]
         rfl
        refine pure_ (i := 18) (N := some 72) (v := ?_) (a' := ?_) #[true, true, true, true, true, true, true, true, true, true, true, true, true, true, true, true, true, true, true] rfl rfl (any_of HT_.out (by kernel_rfl)) (fun _ _ _ h => h) (Or.inl ⟨by rfl, ?_⟩) ?_ ?_
        rotate_left
        ·intro w'
         go_simp
         with_reducible rfl
        rotate_left
        ·simp only [Act.put, List.setIfInBounds_toArray, List.set_cons_zero, List.set_cons_succ, i64_w, i32_w]
         rfl
        refine done_ (done_of HT_.out (by kernel_rfl)) ?_
        try go_wp2
        go_meet
        case rel => exact ⟨_, (!t614), (by first | rfl | (simp; done) | (simp [*]; done)), H', ⟨by have := HK1.out; first | omega | exact Nat.le_refl _⟩, ⟨kN (Kd.N_mono HO_586001.out (fun _ hk => ⟨hk.1.1.1, ⟨hk.1.1.2.2.1, ⟨hk.1.1.2.2.2.1, ⟨hk.1.1.2.2.2.2.1, ⟨hk.1.1.2.2.2.2.2.1, hk.1.1.2.2.2.2.2.2⟩⟩⟩⟩⟩))⟩, ⟨kN (Kd.N_mono HO_587001.out (fun _ hk => ⟨hk.1.1.2.1, ⟨hk.1.1.2.2.2.1, ⟨hk.1.1.2.2.2.2.1, ⟨hk.1.1.2.2.2.2.2.1, ⟨hk.1.1.2.2.2.2.2.2.1, hk.1.1.2.2.2.2.2.2.2⟩⟩⟩⟩⟩))⟩, ⟨kN (Kd.N_mono HO598.out (fun _ hk => ⟨hk.1.1.2.1, ⟨hk.1.1.2.2.1, ⟨hk.1.1.2.2.2.2.1, ⟨hk.1.1.2.2.2.2.2.1, ⟨hk.1.1.2.2.2.2.2.2.1, hk.1.1.2.2.2.2.2.2.2⟩⟩⟩⟩⟩))⟩, ⟨by (with_reducible repeat (first | refine blk_drewN ?_ _ | refine blk_drew ?_ | refine blk_alloc ?_ _)); exact BK576.out⟩, ⟨by (with_reducible repeat (first | refine blk_drewN ?_ _ | refine blk_drew ?_ | refine blk_alloc ?_ _)); exact BK585.out⟩, ⟨by (with_reducible repeat (first | refine blk_drewN ?_ _ | refine blk_drew ?_ | refine blk_alloc ?_ _)); exact BK586.out⟩, ⟨by (with_reducible repeat (first | refine blk_drewN ?_ _ | refine blk_drew ?_ | refine blk_alloc ?_ _)); exact BK600.out⟩, ⟨bb⟩⟩
       ·replace c57 := Bool.eq_false_iff.mpr c57
        subst c57
        have H1 : (precinctlaw12_GraphBack.j1 k1 l1 false) = some r := by rw [if_neg (show ¬ (false = true) by decide)] at H; exact H
        clear H
        have H := H1
        clear H1
        have H' := Aside0.mk H
        clear H
        try go_wp2
        have n0_ : Aside0 (Kd.N k48 48 ((w45.setCell ⟨gb600, 0, none⟩ (.string t595)).setCell ⟨gb600, 1, none⟩ (.slice Ao50 t596.length co50)) w.heap.size (fun k_ => some k_ ≠ (.slice Ao15 t582.length co15 : Value).ownBlock ∧ some k_ ≠ (.slice Ao43 t592.length co43 : Value).ownBlock ∧ some k_ ≠ (.slice Ao50 t596.length co50 : Value).ownBlock ∧ k_ ≠ gb576 ∧ k_ ≠ gb585 ∧ k_ ≠ gb586 ∧ k_ ≠ gb600) (.slice Ao12 t578.length co12) t578) := ⟨kN (Kd.N_mono (Kd.N_far (p := ⟨gb600, 1, none⟩) (Kd.N_far (p := ⟨gb600, 0, none⟩) (Kd.N_mono HO_22.out (fun k_ hk => (⟨hk, hk.2⟩ : _ ∧ k_ ≠ gb600))) (fun _ hk => hk.2) (.string t595)) (fun _ hk => hk.2) (.slice Ao50 t596.length co50)) (fun _ hk => ⟨hk.1.1.1.1.1, ⟨hk.1.1.1.2, ⟨hk.1.1.2, ⟨hk.1.1.1.1.2.1, ⟨hk.1.1.1.1.2.2.1, ⟨hk.1.1.1.1.2.2.2, hk.1.2⟩⟩⟩⟩⟩⟩))⟩
        have n1_ : Aside0 (Kd.N k48 48 ((w45.setCell ⟨gb600, 0, none⟩ (.string t595)).setCell ⟨gb600, 1, none⟩ (.slice Ao50 t596.length co50)) w.heap.size (fun k_ => some k_ ≠ (.slice Ao15 t582.length co15 : Value).ownBlock ∧ some k_ ≠ (.slice Ao43 t592.length co43 : Value).ownBlock ∧ some k_ ≠ (.slice Ao50 t596.length co50 : Value).ownBlock ∧ k_ ≠ gb576 ∧ k_ ≠ gb585 ∧ k_ ≠ gb586 ∧ k_ ≠ gb600) (.slice Ao12 t578.length co12) t578) := ⟨kN (Kd.N_mono (Kd.N_far (p := ⟨gb600, 1, none⟩) (Kd.N_far (p := ⟨gb600, 0, none⟩) (Kd.N_mono HO_586001.out (fun k_ hk => (⟨hk, hk.2⟩ : _ ∧ k_ ≠ gb600))) (fun _ hk => hk.2) (.string t595)) (fun _ hk => hk.2) (.slice Ao50 t596.length co50)) (fun _ hk => ⟨hk.1.1.1.1.1, ⟨hk.1.1.1.2, ⟨hk.1.1.2, ⟨hk.1.1.1.1.2.1, ⟨hk.1.1.1.1.2.2.1, ⟨hk.1.1.1.1.2.2.2, hk.1.2⟩⟩⟩⟩⟩⟩))⟩
        have n2_ : Aside0 (Kd.N k125 125 ((w45.setCell ⟨gb600, 0, none⟩ (.string t595)).setCell ⟨gb600, 1, none⟩ (.slice Ao50 t596.length co50)) w.heap.size (fun k_ => some k_ ≠ (.slice Ao12 t578.length co12 : Value).ownBlock ∧ some k_ ≠ (.slice Ao12 t578.length co12 : Value).ownBlock ∧ some k_ ≠ (.slice Ao43 t592.length co43 : Value).ownBlock ∧ some k_ ≠ (.slice Ao50 t596.length co50 : Value).ownBlock ∧ k_ ≠ gb576 ∧ k_ ≠ gb585 ∧ k_ ≠ gb586 ∧ k_ ≠ gb600) (.slice Ao15 t582.length co15) t582) := ⟨kN (Kd.N_mono (Kd.N_far (p := ⟨gb600, 1, none⟩) (Kd.N_far (p := ⟨gb600, 0, none⟩) (Kd.N_mono HO_587001.out (fun k_ hk => (⟨hk, hk.2⟩ : _ ∧ k_ ≠ gb600))) (fun _ hk => hk.2) (.string t595)) (fun _ hk => hk.2) (.slice Ao50 t596.length co50)) (fun _ hk => ⟨hk.1.1.1.1.1, ⟨hk.1.1.1.1.2.1, ⟨hk.1.1.1.2, ⟨hk.1.1.2, ⟨hk.1.1.1.1.2.2.1, ⟨hk.1.1.1.1.2.2.2.1, ⟨hk.1.1.1.1.2.2.2.2, hk.1.2⟩⟩⟩⟩⟩⟩⟩))⟩
        have n3_ : Aside0 (Kd.N k54 54 ((w45.setCell ⟨gb600, 0, none⟩ (.string t595)).setCell ⟨gb600, 1, none⟩ (.slice Ao50 t596.length co50)) w.heap.size (fun k_ => some k_ ≠ (.slice Ao12 t578.length co12 : Value).ownBlock ∧ some k_ ≠ (.slice Ao12 t578.length co12 : Value).ownBlock ∧ some k_ ≠ (.slice Ao15 t582.length co15 : Value).ownBlock ∧ some k_ ≠ (.slice Ao50 t596.length co50 : Value).ownBlock ∧ k_ ≠ gb576 ∧ k_ ≠ gb585 ∧ k_ ≠ gb586 ∧ k_ ≠ gb600) (.slice Ao43 t592.length co43) t592) := ⟨kN (Kd.N_mono (Kd.N_far (p := ⟨gb600, 1, none⟩) (Kd.N_far (p := ⟨gb600, 0, none⟩) (Kd.N_mono HO594.out (fun k_ hk => (⟨hk, hk.2⟩ : _ ∧ k_ ≠ gb600))) (fun _ hk => hk.2) (.string t595)) (fun _ hk => hk.2) (.slice Ao50 t596.length co50)) (fun _ hk => ⟨hk.1.1.1.1, ⟨hk.1.1.1.2.1, ⟨hk.1.1.1.2.2.1, ⟨hk.1.1.2, ⟨hk.1.1.1.2.2.2.1, ⟨hk.1.1.1.2.2.2.2.1, ⟨hk.1.1.1.2.2.2.2.2, hk.1.2⟩⟩⟩⟩⟩⟩⟩))⟩
        have n4_ : Aside0 (Kd.N k48 48 ((w45.setCell ⟨gb600, 0, none⟩ (.string t595)).setCell ⟨gb600, 1, none⟩ (.slice Ao50 t596.length co50)) w.heap.size (fun k_ => some k_ ≠ (.slice Ao12 t578.length co12 : Value).ownBlock ∧ some k_ ≠ (.slice Ao12 t578.length co12 : Value).ownBlock ∧ some k_ ≠ (.slice Ao15 t582.length co15 : Value).ownBlock ∧ some k_ ≠ (.slice Ao43 t592.length co43 : Value).ownBlock ∧ k_ ≠ gb576 ∧ k_ ≠ gb585 ∧ k_ ≠ gb586 ∧ k_ ≠ gb600) (.slice Ao50 t596.length co50) t596) := ⟨kN (Kd.N_mono (Kd.N_far (p := ⟨gb600, 1, none⟩) (Kd.N_far (p := ⟨gb600, 0, none⟩) (Kd.N_mono HO598.out (fun k_ hk => (⟨hk, hk.2⟩ : _ ∧ k_ ≠ gb600))) (fun _ hk => hk.2) (.string t595)) (fun _ hk => hk.2) (.slice Ao50 t596.length co50)) (fun _ hk => ⟨hk.1.1.1, ⟨hk.1.1.2.1, ⟨hk.1.1.2.2.1, ⟨hk.1.1.2.2.2.1, ⟨hk.1.1.2.2.2.2.1, ⟨hk.1.1.2.2.2.2.2.1, ⟨hk.1.1.2.2.2.2.2.2, hk.1.2⟩⟩⟩⟩⟩⟩⟩))⟩
        have n5_ : Aside0 (((w45.setCell ⟨gb600, 0, none⟩ (.string t595)).setCell ⟨gb600, 1, none⟩ (.slice Ao50 t596.length co50)).heap[gb576]? = some (.cells #[.string a0_0, .slice A0_1 l0_1.length c0_1] 24 (0, 0))) := ⟨by (with_reducible repeat (first | refine blk_drewN ?_ _ | refine blk_drew ?_ | refine blk_alloc ?_ _)); refine blk_far ?_ NB576_600.out _; (with_reducible repeat (first | refine blk_drewN ?_ _ | refine blk_drew ?_ | refine blk_alloc ?_ _)); refine blk_far ?_ NB576_600.out _; (with_reducible repeat (first | refine blk_drewN ?_ _ | refine blk_drew ?_ | refine blk_alloc ?_ _)); exact BK576.out⟩
        have n6_ : Aside0 (((w45.setCell ⟨gb600, 0, none⟩ (.string t595)).setCell ⟨gb600, 1, none⟩ (.slice Ao50 t596.length co50)).heap[gb585]? = some (.cells #[.string t577, .slice Ao12 t578.length co12] 27 (0, 0))) := ⟨by (with_reducible repeat (first | refine blk_drewN ?_ _ | refine blk_drew ?_ | refine blk_alloc ?_ _)); refine blk_far ?_ NB585_600.out _; (with_reducible repeat (first | refine blk_drewN ?_ _ | refine blk_drew ?_ | refine blk_alloc ?_ _)); refine blk_far ?_ NB585_600.out _; (with_reducible repeat (first | refine blk_drewN ?_ _ | refine blk_drew ?_ | refine blk_alloc ?_ _)); exact BK585.out⟩
        have n7_ : Aside0 (((w45.setCell ⟨gb600, 0, none⟩ (.string t595)).setCell ⟨gb600, 1, none⟩ (.slice Ao50 t596.length co50)).heap[gb586]? = some (.cells #[.string t581, .slice Ao15 t582.length co15] 30 (0, 0))) := ⟨by (with_reducible repeat (first | refine blk_drewN ?_ _ | refine blk_drew ?_ | refine blk_alloc ?_ _)); refine blk_far ?_ NB586_600.out _; (with_reducible repeat (first | refine blk_drewN ?_ _ | refine blk_drew ?_ | refine blk_alloc ?_ _)); refine blk_far ?_ NB586_600.out _; (with_reducible repeat (first | refine blk_drewN ?_ _ | refine blk_drew ?_ | refine blk_alloc ?_ _)); exact BK586.out⟩
        have n8_ : Aside0 (((w45.setCell ⟨gb600, 0, none⟩ (.string t595)).setCell ⟨gb600, 1, none⟩ (.slice Ao50 t596.length co50)).heap[gb600]? = some (.cells #[.string t595, .slice Ao50 t596.length co50] 27 (0, 0))) := ⟨by (with_reducible repeat (first | refine blk_drewN ?_ _ | refine blk_drew ?_ | refine blk_alloc ?_ _)); refine blk_put (cs := #[.string t595, .slice none 0 0]) ?_ 1 _ rfl; (with_reducible repeat (first | refine blk_drewN ?_ _ | refine blk_drew ?_ | refine blk_alloc ?_ _)); refine blk_put (cs := #[.string (⟨#[]⟩ : ByteArray), .slice none 0 0]) ?_ 0 _ rfl; (with_reducible repeat (first | refine blk_drewN ?_ _ | refine blk_drew ?_ | refine blk_alloc ?_ _)); exact BK600.out⟩
        have n9_ : Aside0 (Below w.heap.size w ((w45.setCell ⟨gb600, 0, none⟩ (.string t595)).setCell ⟨gb600, 1, none⟩ (.slice Ao50 t596.length co50))) := ⟨bb⟩
        (try clear HO_22)
        (try clear HO_586001)
        (try clear HO_587001)
        (try clear HO594)
        (try clear HO598)
        (try clear BK576)
        (try clear BK585)
        (try clear BK586)
        (try clear BK600)
        (try clear HB)
        generalize ((w45.setCell ⟨gb600, 0, none⟩ (.string t595)).setCell ⟨gb600, 1, none⟩ (.slice Ao50 t596.length co50)) = w69 at n0_ n1_ n2_ n3_ n4_ n5_ n6_ n7_ n8_ n9_ ⊢
        have HO_22 := n0_
        have HO_586001 := n1_
        have HO_587001 := n2_
        have HO594 := n3_
        have HO598 := n4_
        have BK576 := n5_
        have BK585 := n6_
        have BK586 := n7_
        have BK600 := n8_
        have HB := n9_
        clear n0_ n1_ n2_ n3_ n4_ n5_ n6_ n7_ n8_ n9_
        have n0_ := Aside0.mk (Kd.N_drew HO_22.out)
        have n1_ := Aside0.mk (Kd.N_drew HO_586001.out)
        have n2_ := Aside0.mk (Kd.N_drew HO_587001.out)
        have n3_ := Aside0.mk (Kd.N_drew HO594.out)
        have n4_ := Aside0.mk (Kd.N_drew HO598.out)
        have n5_ := Aside0.mk (blk_drew BK576.out)
        have n6_ := Aside0.mk (blk_drew BK585.out)
        have n7_ := Aside0.mk (blk_drew BK586.out)
        have n8_ := Aside0.mk (blk_drew BK600.out)
        have n9_ := Aside0.mk (below_drew1 HB.out)
        clear HO_22
        clear HO_586001
        clear HO_587001
        clear HO594
        clear HO598
        clear BK576
        clear BK585
        clear BK586
        clear BK600
        clear HB
        have HO_22 := n0_
        have HO_586001 := n1_
        have HO_587001 := n2_
        have HO594 := n3_
        have HO598 := n4_
        have BK576 := n5_
        have BK585 := n6_
        have BK586 := n7_
        have BK600 := n8_
        have HB := n9_
        clear n0_ n1_ n2_ n3_ n4_ n5_ n6_ n7_ n8_ n9_
        refine start_ (n := 19) (S := fun w' => True) (ds := []) #[false, false, false, false, false, false, false, false, false, false, false, false, false, false, false, false, false, false, false] (by kernel_rfl) rfl rfl trivial (fun hHeld => ?_); refine with_tabW precinctlaw12_GraphBack.tab9 precinctlaw12_GraphBack.bits9 (fun HT_ HW_ => ?_)
        generalize w69.drew = w70 at HO_22 HO_586001 HO_587001 HO594 HO598 BK576 BK585 BK586 BK600 HB hHeld ⊢
        refine one_ (i := 0) (N := some 54) #[true, false, false, false, false, false, false, false, false, false, false, false, false, false, false, false, false, false, false] rfl rfl (one_of HT_.out (by kernel_rfl)) (by decide) (fun K hK => ?_)
        refine goes_ Try.func17 (by kernel_rfl) rfl #[] (by rfl) rfl rfl ag ?_
        with_reducible refine (precinctlaw12_wakes.calls  true _ A51.out).mono ?_
        rintro e w71 ⟨rfl, hb⟩
        refine ⟨_, rfl, ?_⟩
        have n0_ := Aside0.mk (Kd.N_below (kN HO_22.out) hb)
        have n1_ := Aside0.mk (Kd.N_below (kN HO_586001.out) hb)
        have n2_ := Aside0.mk (Kd.N_below (kN HO_587001.out) hb)
        have n3_ := Aside0.mk (Kd.N_below (kN HO594.out) hb)
        have n4_ := Aside0.mk (Kd.N_below (kN HO598.out) hb)
        have n5_ := Aside0.mk (blk_below (rb BK576.out) hb)
        have n6_ := Aside0.mk (blk_below (rb BK585.out) hb)
        have n7_ := Aside0.mk (blk_below (rb BK586.out) hb)
        have n8_ := Aside0.mk (blk_below (rb BK600.out) hb)
        have n9_ := Aside0.mk (below_step bb hb)
        clear HO_22
        clear HO_586001
        clear HO_587001
        clear HO594
        clear HO598
        clear BK576
        clear BK585
        clear BK586
        clear BK600
        clear HB
        have HO_22 := n0_
        have HO_586001 := n1_
        have HO_587001 := n2_
        have HO594 := n3_
        have HO598 := n4_
        have BK576 := n5_
        have BK585 := n6_
        have BK586 := n7_
        have BK600 := n8_
        have HB := n9_
        clear n0_ n1_ n2_ n3_ n4_ n5_ n6_ n7_ n8_ n9_
        (try clear hb)
        (try clear hb2)
        (try clear hk)
        (try clear hi)
        refine hK.out _ _ trivial (fun hHeld => ?_)
        clear hK K
        refine norm_ (a' := ?_) ?_ ?_
        rotate_left
        ·show Act.put _ (some 54) _ = _
         simp only [Act.put, List.setIfInBounds_toArray, List.set_cons_zero, List.set_cons_succ, i64_w, i32_w]
         rfl
        refine pure_ (i := 1) (N := some 55) (v := ?_) (a' := ?_) #[true, true, false, false, false, false, false, false, false, false, false, false, false, false, false, false, false, false, false] rfl rfl (any_of HT_.out (by kernel_rfl)) (fun _ _ _ h => h) (Or.inl ⟨by rfl, ?_⟩) ?_ ?_
        rotate_left
        ·intro w'
         go_simp
         with_reducible rfl
        rotate_left
        ·simp only [Act.put, List.setIfInBounds_toArray, List.set_cons_zero, List.set_cons_succ, i64_w, i32_w]
         rfl
        refine pure_ (i := 2) (N := some 56) (v := ?_) (a' := ?_) #[true, true, true, false, false, false, false, false, false, false, false, false, false, false, false, false, false, false, false] rfl rfl (any_of HT_.out (by kernel_rfl)) (fun _ _ _ h => h) (Or.inl ⟨by rfl, ?_⟩) ?_ ?_
        rotate_left
        ·intro w'
         go_simp
         with_reducible rfl
        rotate_left
        ·simp only [Act.put, List.setIfInBounds_toArray, List.set_cons_zero, List.set_cons_succ, i64_w, i32_w]
         rfl
        refine pure_ (i := 3) (N := some 57) (v := ?_) (a' := ?_) #[true, true, true, true, false, false, false, false, false, false, false, false, false, false, false, false, false, false, false] rfl rfl (any_of HT_.out (by kernel_rfl)) (fun _ _ _ h => h) (Or.inl ⟨by rfl, ?_⟩) ?_ ?_
        rotate_left
        ·intro w'
         go_simp
         with_reducible rfl
        rotate_left
        ·simp only [Act.put, List.setIfInBounds_toArray, List.set_cons_zero, List.set_cons_succ, i64_w, i32_w]
         rfl
        refine pure_ (i := 4) (N := some 58) (v := ?_) (a' := ?_) #[true, true, true, true, true, false, false, false, false, false, false, false, false, false, false, false, false, false, false] rfl rfl (any_of HT_.out (by kernel_rfl)) (fun _ _ _ h => h) (Or.inl ⟨by rfl, ?_⟩) ?_ ?_
        rotate_left
        ·intro w'
         go_simp
         with_reducible rfl
        rotate_left
        ·simp only [Act.put, List.setIfInBounds_toArray, List.set_cons_zero, List.set_cons_succ, i64_w, i32_w]
         rfl
        refine pure_ (i := 5) (N := some 59) (v := ?_) (a' := ?_) #[true, true, true, true, true, true, false, false, false, false, false, false, false, false, false, false, false, false, false] rfl rfl (any_of HT_.out (by kernel_rfl)) (fun _ _ _ h => h) (Or.inl ⟨by rfl, ?_⟩) ?_ ?_
        rotate_left
        ·intro w'
         go_simp
         with_reducible rfl
        rotate_left
        ·simp only [Act.put, List.setIfInBounds_toArray, List.set_cons_zero, List.set_cons_succ, i64_w, i32_w]
         rfl
        refine pure_ (i := 6) (N := some 60) (v := ?_) (a' := ?_) #[true, true, true, true, true, true, true, false, false, false, false, false, false, false, false, false, false, false, false] rfl rfl (any_of HT_.out (by kernel_rfl)) (fun _ _ _ h => h) (Or.inl ⟨by rfl, ?_⟩) ?_ ?_
        rotate_left
        ·intro w'
         go_simp
         with_reducible rfl
        rotate_left
        ·simp only [Act.put, List.setIfInBounds_toArray, List.set_cons_zero, List.set_cons_succ, i64_w, i32_w]
         rfl
        refine pure_ (i := 7) (N := some 61) (v := ?_) (a' := ?_) #[true, true, true, true, true, true, true, true, false, false, false, false, false, false, false, false, false, false, false] rfl rfl (any_of HT_.out (by kernel_rfl)) (fun _ _ _ h => h) (Or.inl ⟨by rfl, ?_⟩) ?_ ?_
        rotate_left
        ·intro w'
         go_simp
         with_reducible rfl
        rotate_left
        ·simp only [Act.put, List.setIfInBounds_toArray, List.set_cons_zero, List.set_cons_succ, i64_w, i32_w]
         rfl
        refine pure_ (i := 8) (N := some 62) (v := ?_) (a' := ?_) #[true, true, true, true, true, true, true, true, true, false, false, false, false, false, false, false, false, false, false] rfl rfl (any_of HT_.out (by kernel_rfl)) (fun _ _ _ h => h) (Or.inl ⟨by rfl, ?_⟩) ?_ ?_
        rotate_left
        ·intro w'
         go_simp
         with_reducible rfl
        rotate_left
        ·simp only [Act.put, List.setIfInBounds_toArray, List.set_cons_zero, List.set_cons_succ, i64_w, i32_w]
         rfl
        refine pure_ (i := 9) (N := some 63) (v := ?_) (a' := ?_) #[true, true, true, true, true, true, true, true, true, true, false, false, false, false, false, false, false, false, false] rfl rfl (any_of HT_.out (by kernel_rfl)) (fun _ _ _ h => h) (Or.inl ⟨by rfl, ?_⟩) ?_ ?_
        rotate_left
        ·intro w'
         go_simp
         with_reducible rfl
        rotate_left
        ·simp only [Act.put, List.setIfInBounds_toArray, List.set_cons_zero, List.set_cons_succ, i64_w, i32_w]
         rfl
        refine pure_ (i := 10) (N := some 64) (v := ?_) (a' := ?_) #[true, true, true, true, true, true, true, true, true, true, true, false, false, false, false, false, false, false, false] rfl rfl (any_of HT_.out (by kernel_rfl)) (fun _ _ _ h => h) (Or.inl ⟨by rfl, ?_⟩) ?_ ?_
        rotate_left
        ·intro w'
         go_simp
         with_reducible rfl
        rotate_left
        ·simp only [Act.put, List.setIfInBounds_toArray, List.set_cons_zero, List.set_cons_succ, i64_w, i32_w]
         rfl
        refine pure_ (i := 11) (N := some 65) (v := undef) (a' := ?_) #[true, true, true, true, true, true, true, true, true, true, true, true, false, false, false, false, false, false, false] rfl rfl (any_of HT_.out (by kernel_rfl)) (fun _ _ _ h => h) (Or.inr ⟨by rfl, rfl⟩) ?_ ?_
        rotate_left
        ·simp only [Act.put, List.setIfInBounds_toArray, List.set_cons_zero, List.set_cons_succ, i64_w, i32_w]
         rfl
        refine pure_ (i := 12) (N := some 66) (v := undef) (a' := ?_) #[true, true, true, true, true, true, true, true, true, true, true, true, true, false, false, false, false, false, false] rfl rfl (any_of HT_.out (by kernel_rfl)) (fun _ _ _ h => h) (Or.inr ⟨by rfl, rfl⟩) ?_ ?_
        rotate_left
        ·simp only [Act.put, List.setIfInBounds_toArray, List.set_cons_zero, List.set_cons_succ, i64_w, i32_w]
         rfl
        refine pure_ (i := 13) (N := some 67) (v := undef) (a' := ?_) #[true, true, true, true, true, true, true, true, true, true, true, true, true, true, false, false, false, false, false] rfl rfl (any_of HT_.out (by kernel_rfl)) (fun _ _ _ h => h) (Or.inr ⟨by rfl, rfl⟩) ?_ ?_
        rotate_left
        ·simp only [Act.put, List.setIfInBounds_toArray, List.set_cons_zero, List.set_cons_succ, i64_w, i32_w]
         rfl
        refine pure_ (i := 14) (N := some 68) (v := undef) (a' := ?_) #[true, true, true, true, true, true, true, true, true, true, true, true, true, true, true, false, false, false, false] rfl rfl (any_of HT_.out (by kernel_rfl)) (fun _ _ _ h => h) (Or.inr ⟨by rfl, rfl⟩) ?_ ?_
        rotate_left
        ·simp only [Act.put, List.setIfInBounds_toArray, List.set_cons_zero, List.set_cons_succ, i64_w, i32_w]
         rfl
        refine pure_ (i := 15) (N := some 69) (v := undef) (a' := ?_) #[true, true, true, true, true, true, true, true, true, true, true, true, true, true, true, true, false, false, false] rfl rfl (any_of HT_.out (by kernel_rfl)) (fun _ _ _ h => h) (Or.inr ⟨by rfl, rfl⟩) ?_ ?_
        rotate_left
        ·simp only [Act.put, List.setIfInBounds_toArray, List.set_cons_zero, List.set_cons_succ, i64_w, i32_w]
         rfl
        refine pure_ (i := 16) (N := some 70) (v := undef) (a' := ?_) #[true, true, true, true, true, true, true, true, true, true, true, true, true, true, true, true, true, false, false] rfl rfl (any_of HT_.out (by kernel_rfl)) (fun _ _ _ h => h) (Or.inr ⟨by rfl, rfl⟩) ?_ ?_
        rotate_left
        ·simp only [Act.put, List.setIfInBounds_toArray, List.set_cons_zero, List.set_cons_succ, i64_w, i32_w]
         rfl
        refine pure_ (i := 17) (N := some 71) (v := ?_) (a' := ?_) #[true, true, true, true, true, true, true, true, true, true, true, true, true, true, true, true, true, true, false] rfl rfl (any_of HT_.out (by kernel_rfl)) (fun _ _ _ h => h) (Or.inl ⟨by rfl, ?_⟩) ?_ ?_
        rotate_left
        ·intro w'
         go_simp
         with_reducible rfl
        rotate_left
        ·simp only [Act.put, List.setIfInBounds_toArray, List.set_cons_zero, List.set_cons_succ, i64_w, i32_w]
         rfl
        refine pure_ (i := 18) (N := some 72) (v := ?_) (a' := ?_) #[true, true, true, true, true, true, true, true, true, true, true, true, true, true, true, true, true, true, true] rfl rfl (any_of HT_.out (by kernel_rfl)) (fun _ _ _ h => h) (Or.inl ⟨by rfl, ?_⟩) ?_ ?_
        rotate_left
        ·intro w'
         go_simp
         with_reducible rfl
        rotate_left
        ·simp only [Act.put, List.setIfInBounds_toArray, List.set_cons_zero, List.set_cons_succ, i64_w, i32_w]
         rfl
        refine done_ (done_of HT_.out (by kernel_rfl)) ?_
        try go_wp2
        go_meet
        case rel => exact ⟨_, (false), (by first | rfl | (simp; done) | (simp [*]; done)), H', ⟨by have := HK1.out; first | omega | exact Nat.le_refl _⟩, ⟨kN (Kd.N_mono HO_586001.out (fun _ hk => ⟨hk.1, ⟨hk.2.2.1, ⟨hk.2.2.2.1, ⟨hk.2.2.2.2.1, ⟨hk.2.2.2.2.2.1, hk.2.2.2.2.2.2⟩⟩⟩⟩⟩))⟩, ⟨kN (Kd.N_mono HO_587001.out (fun _ hk => ⟨hk.2.1, ⟨hk.2.2.2.1, ⟨hk.2.2.2.2.1, ⟨hk.2.2.2.2.2.1, ⟨hk.2.2.2.2.2.2.1, hk.2.2.2.2.2.2.2⟩⟩⟩⟩⟩))⟩, ⟨kN (Kd.N_mono HO598.out (fun _ hk => ⟨hk.2.1, ⟨hk.2.2.1, ⟨hk.2.2.2.2.1, ⟨hk.2.2.2.2.2.1, ⟨hk.2.2.2.2.2.2.1, hk.2.2.2.2.2.2.2⟩⟩⟩⟩⟩))⟩, ⟨by (with_reducible repeat (first | refine blk_drewN ?_ _ | refine blk_drew ?_ | refine blk_alloc ?_ _)); exact BK576.out⟩, ⟨by (with_reducible repeat (first | refine blk_drewN ?_ _ | refine blk_drew ?_ | refine blk_alloc ?_ _)); exact BK585.out⟩, ⟨by (with_reducible repeat (first | refine blk_drewN ?_ _ | refine blk_drew ?_ | refine blk_alloc ?_ _)); exact BK586.out⟩, ⟨by (with_reducible repeat (first | refine blk_drewN ?_ _ | refine blk_drew ?_ | refine blk_alloc ?_ _)); exact BK600.out⟩, ⟨bb⟩⟩
     ·replace c52 := Bool.eq_false_iff.mpr c52
      subst c52
      have H1 : (precinctlaw12_GraphBack.j1 k1 l1 true) = some r := by rw [if_neg (show ¬ (false = true) by decide)] at H; exact H
      clear H
      have H := H1
      clear H1
      have H' := Aside0.mk H
      clear H
      try go_wp2
      have n0_ : Aside0 (Kd.N k48 48 ((w45.setCell ⟨gb600, 0, none⟩ (.string t595)).setCell ⟨gb600, 1, none⟩ (.slice Ao50 t596.length co50)) w.heap.size (fun k_ => some k_ ≠ (.slice Ao15 t582.length co15 : Value).ownBlock ∧ some k_ ≠ (.slice Ao43 t592.length co43 : Value).ownBlock ∧ some k_ ≠ (.slice Ao50 t596.length co50 : Value).ownBlock ∧ k_ ≠ gb576 ∧ k_ ≠ gb585 ∧ k_ ≠ gb586 ∧ k_ ≠ gb600) (.slice Ao12 t578.length co12) t578) := ⟨kN (Kd.N_mono (Kd.N_far (p := ⟨gb600, 1, none⟩) (Kd.N_far (p := ⟨gb600, 0, none⟩) (Kd.N_mono HO_22.out (fun k_ hk => (⟨hk, hk.2⟩ : _ ∧ k_ ≠ gb600))) (fun _ hk => hk.2) (.string t595)) (fun _ hk => hk.2) (.slice Ao50 t596.length co50)) (fun _ hk => ⟨hk.1.1.1.1.1, ⟨hk.1.1.1.2, ⟨hk.1.1.2, ⟨hk.1.1.1.1.2.1, ⟨hk.1.1.1.1.2.2.1, ⟨hk.1.1.1.1.2.2.2, hk.1.2⟩⟩⟩⟩⟩⟩))⟩
      have n1_ : Aside0 (Kd.N k48 48 ((w45.setCell ⟨gb600, 0, none⟩ (.string t595)).setCell ⟨gb600, 1, none⟩ (.slice Ao50 t596.length co50)) w.heap.size (fun k_ => some k_ ≠ (.slice Ao15 t582.length co15 : Value).ownBlock ∧ some k_ ≠ (.slice Ao43 t592.length co43 : Value).ownBlock ∧ some k_ ≠ (.slice Ao50 t596.length co50 : Value).ownBlock ∧ k_ ≠ gb576 ∧ k_ ≠ gb585 ∧ k_ ≠ gb586 ∧ k_ ≠ gb600) (.slice Ao12 t578.length co12) t578) := ⟨kN (Kd.N_mono (Kd.N_far (p := ⟨gb600, 1, none⟩) (Kd.N_far (p := ⟨gb600, 0, none⟩) (Kd.N_mono HO_586001.out (fun k_ hk => (⟨hk, hk.2⟩ : _ ∧ k_ ≠ gb600))) (fun _ hk => hk.2) (.string t595)) (fun _ hk => hk.2) (.slice Ao50 t596.length co50)) (fun _ hk => ⟨hk.1.1.1.1.1, ⟨hk.1.1.1.2, ⟨hk.1.1.2, ⟨hk.1.1.1.1.2.1, ⟨hk.1.1.1.1.2.2.1, ⟨hk.1.1.1.1.2.2.2, hk.1.2⟩⟩⟩⟩⟩⟩))⟩
      have n2_ : Aside0 (Kd.N k125 125 ((w45.setCell ⟨gb600, 0, none⟩ (.string t595)).setCell ⟨gb600, 1, none⟩ (.slice Ao50 t596.length co50)) w.heap.size (fun k_ => some k_ ≠ (.slice Ao12 t578.length co12 : Value).ownBlock ∧ some k_ ≠ (.slice Ao12 t578.length co12 : Value).ownBlock ∧ some k_ ≠ (.slice Ao43 t592.length co43 : Value).ownBlock ∧ some k_ ≠ (.slice Ao50 t596.length co50 : Value).ownBlock ∧ k_ ≠ gb576 ∧ k_ ≠ gb585 ∧ k_ ≠ gb586 ∧ k_ ≠ gb600) (.slice Ao15 t582.length co15) t582) := ⟨kN (Kd.N_mono (Kd.N_far (p := ⟨gb600, 1, none⟩) (Kd.N_far (p := ⟨gb600, 0, none⟩) (Kd.N_mono HO_587001.out (fun k_ hk => (⟨hk, hk.2⟩ : _ ∧ k_ ≠ gb600))) (fun _ hk => hk.2) (.string t595)) (fun _ hk => hk.2) (.slice Ao50 t596.length co50)) (fun _ hk => ⟨hk.1.1.1.1.1, ⟨hk.1.1.1.1.2.1, ⟨hk.1.1.1.2, ⟨hk.1.1.2, ⟨hk.1.1.1.1.2.2.1, ⟨hk.1.1.1.1.2.2.2.1, ⟨hk.1.1.1.1.2.2.2.2, hk.1.2⟩⟩⟩⟩⟩⟩⟩))⟩
      have n3_ : Aside0 (Kd.N k54 54 ((w45.setCell ⟨gb600, 0, none⟩ (.string t595)).setCell ⟨gb600, 1, none⟩ (.slice Ao50 t596.length co50)) w.heap.size (fun k_ => some k_ ≠ (.slice Ao12 t578.length co12 : Value).ownBlock ∧ some k_ ≠ (.slice Ao12 t578.length co12 : Value).ownBlock ∧ some k_ ≠ (.slice Ao15 t582.length co15 : Value).ownBlock ∧ some k_ ≠ (.slice Ao50 t596.length co50 : Value).ownBlock ∧ k_ ≠ gb576 ∧ k_ ≠ gb585 ∧ k_ ≠ gb586 ∧ k_ ≠ gb600) (.slice Ao43 t592.length co43) t592) := ⟨kN (Kd.N_mono (Kd.N_far (p := ⟨gb600, 1, none⟩) (Kd.N_far (p := ⟨gb600, 0, none⟩) (Kd.N_mono HO594.out (fun k_ hk => (⟨hk, hk.2⟩ : _ ∧ k_ ≠ gb600))) (fun _ hk => hk.2) (.string t595)) (fun _ hk => hk.2) (.slice Ao50 t596.length co50)) (fun _ hk => ⟨hk.1.1.1.1, ⟨hk.1.1.1.2.1, ⟨hk.1.1.1.2.2.1, ⟨hk.1.1.2, ⟨hk.1.1.1.2.2.2.1, ⟨hk.1.1.1.2.2.2.2.1, ⟨hk.1.1.1.2.2.2.2.2, hk.1.2⟩⟩⟩⟩⟩⟩⟩))⟩
      have n4_ : Aside0 (Kd.N k48 48 ((w45.setCell ⟨gb600, 0, none⟩ (.string t595)).setCell ⟨gb600, 1, none⟩ (.slice Ao50 t596.length co50)) w.heap.size (fun k_ => some k_ ≠ (.slice Ao12 t578.length co12 : Value).ownBlock ∧ some k_ ≠ (.slice Ao12 t578.length co12 : Value).ownBlock ∧ some k_ ≠ (.slice Ao15 t582.length co15 : Value).ownBlock ∧ some k_ ≠ (.slice Ao43 t592.length co43 : Value).ownBlock ∧ k_ ≠ gb576 ∧ k_ ≠ gb585 ∧ k_ ≠ gb586 ∧ k_ ≠ gb600) (.slice Ao50 t596.length co50) t596) := ⟨kN (Kd.N_mono (Kd.N_far (p := ⟨gb600, 1, none⟩) (Kd.N_far (p := ⟨gb600, 0, none⟩) (Kd.N_mono HO598.out (fun k_ hk => (⟨hk, hk.2⟩ : _ ∧ k_ ≠ gb600))) (fun _ hk => hk.2) (.string t595)) (fun _ hk => hk.2) (.slice Ao50 t596.length co50)) (fun _ hk => ⟨hk.1.1.1, ⟨hk.1.1.2.1, ⟨hk.1.1.2.2.1, ⟨hk.1.1.2.2.2.1, ⟨hk.1.1.2.2.2.2.1, ⟨hk.1.1.2.2.2.2.2.1, ⟨hk.1.1.2.2.2.2.2.2, hk.1.2⟩⟩⟩⟩⟩⟩⟩))⟩
      have n5_ : Aside0 (((w45.setCell ⟨gb600, 0, none⟩ (.string t595)).setCell ⟨gb600, 1, none⟩ (.slice Ao50 t596.length co50)).heap[gb576]? = some (.cells #[.string a0_0, .slice A0_1 l0_1.length c0_1] 24 (0, 0))) := ⟨by (with_reducible repeat (first | refine blk_drewN ?_ _ | refine blk_drew ?_ | refine blk_alloc ?_ _)); refine blk_far ?_ NB576_600.out _; (with_reducible repeat (first | refine blk_drewN ?_ _ | refine blk_drew ?_ | refine blk_alloc ?_ _)); refine blk_far ?_ NB576_600.out _; (with_reducible repeat (first | refine blk_drewN ?_ _ | refine blk_drew ?_ | refine blk_alloc ?_ _)); exact BK576.out⟩
      have n6_ : Aside0 (((w45.setCell ⟨gb600, 0, none⟩ (.string t595)).setCell ⟨gb600, 1, none⟩ (.slice Ao50 t596.length co50)).heap[gb585]? = some (.cells #[.string t577, .slice Ao12 t578.length co12] 27 (0, 0))) := ⟨by (with_reducible repeat (first | refine blk_drewN ?_ _ | refine blk_drew ?_ | refine blk_alloc ?_ _)); refine blk_far ?_ NB585_600.out _; (with_reducible repeat (first | refine blk_drewN ?_ _ | refine blk_drew ?_ | refine blk_alloc ?_ _)); refine blk_far ?_ NB585_600.out _; (with_reducible repeat (first | refine blk_drewN ?_ _ | refine blk_drew ?_ | refine blk_alloc ?_ _)); exact BK585.out⟩
      have n7_ : Aside0 (((w45.setCell ⟨gb600, 0, none⟩ (.string t595)).setCell ⟨gb600, 1, none⟩ (.slice Ao50 t596.length co50)).heap[gb586]? = some (.cells #[.string t581, .slice Ao15 t582.length co15] 30 (0, 0))) := ⟨by (with_reducible repeat (first | refine blk_drewN ?_ _ | refine blk_drew ?_ | refine blk_alloc ?_ _)); refine blk_far ?_ NB586_600.out _; (with_reducible repeat (first | refine blk_drewN ?_ _ | refine blk_drew ?_ | refine blk_alloc ?_ _)); refine blk_far ?_ NB586_600.out _; (with_reducible repeat (first | refine blk_drewN ?_ _ | refine blk_drew ?_ | refine blk_alloc ?_ _)); exact BK586.out⟩
      have n8_ : Aside0 (((w45.setCell ⟨gb600, 0, none⟩ (.string t595)).setCell ⟨gb600, 1, none⟩ (.slice Ao50 t596.length co50)).heap[gb600]? = some (.cells #[.string t595, .slice Ao50 t596.length co50] 27 (0, 0))) := ⟨by (with_reducible repeat (first | refine blk_drewN ?_ _ | refine blk_drew ?_ | refine blk_alloc ?_ _)); refine blk_put (cs := #[.string t595, .slice none 0 0]) ?_ 1 _ rfl; (with_reducible repeat (first | refine blk_drewN ?_ _ | refine blk_drew ?_ | refine blk_alloc ?_ _)); refine blk_put (cs := #[.string (⟨#[]⟩ : ByteArray), .slice none 0 0]) ?_ 0 _ rfl; (with_reducible repeat (first | refine blk_drewN ?_ _ | refine blk_drew ?_ | refine blk_alloc ?_ _)); exact BK600.out⟩
      have n9_ : Aside0 (Below w.heap.size w ((w45.setCell ⟨gb600, 0, none⟩ (.string t595)).setCell ⟨gb600, 1, none⟩ (.slice Ao50 t596.length co50))) := ⟨bb⟩
      (try clear HO_22)
      (try clear HO_586001)
      (try clear HO_587001)
      (try clear HO594)
      (try clear HO598)
      (try clear BK576)
      (try clear BK585)
      (try clear BK586)
      (try clear BK600)
      (try clear HB)
      generalize ((w45.setCell ⟨gb600, 0, none⟩ (.string t595)).setCell ⟨gb600, 1, none⟩ (.slice Ao50 t596.length co50)) = w72 at n0_ n1_ n2_ n3_ n4_ n5_ n6_ n7_ n8_ n9_ ⊢
      have HO_22 := n0_
      have HO_586001 := n1_
      have HO_587001 := n2_
      have HO594 := n3_
      have HO598 := n4_
      have BK576 := n5_
      have BK585 := n6_
      have BK586 := n7_
      have BK600 := n8_
      have HB := n9_
      clear n0_ n1_ n2_ n3_ n4_ n5_ n6_ n7_ n8_ n9_
      have n0_ := Aside0.mk (Kd.N_drew HO_22.out)
      have n1_ := Aside0.mk (Kd.N_drew HO_586001.out)
      have n2_ := Aside0.mk (Kd.N_drew HO_587001.out)
      have n3_ := Aside0.mk (Kd.N_drew HO594.out)
      have n4_ := Aside0.mk (Kd.N_drew HO598.out)
      have n5_ := Aside0.mk (blk_drew BK576.out)
      have n6_ := Aside0.mk (blk_drew BK585.out)
      have n7_ := Aside0.mk (blk_drew BK586.out)
      have n8_ := Aside0.mk (blk_drew BK600.out)
      have n9_ := Aside0.mk (below_drew1 HB.out)
      clear HO_22
      clear HO_586001
      clear HO_587001
      clear HO594
      clear HO598
      clear BK576
      clear BK585
      clear BK586
      clear BK600
      clear HB
      have HO_22 := n0_
      have HO_586001 := n1_
      have HO_587001 := n2_
      have HO594 := n3_
      have HO598 := n4_
      have BK576 := n5_
      have BK585 := n6_
      have BK586 := n7_
      have BK600 := n8_
      have HB := n9_
      clear n0_ n1_ n2_ n3_ n4_ n5_ n6_ n7_ n8_ n9_
      refine start_ (n := 19) (S := fun w' => True) (ds := []) #[false, false, false, false, false, false, false, false, false, false, false, false, false, false, false, false, false, false, false] (by kernel_rfl) rfl rfl trivial (fun hHeld => ?_); refine with_tabW precinctlaw12_GraphBack.tab9 precinctlaw12_GraphBack.bits9 (fun HT_ HW_ => ?_)
      generalize w72.drew = w73 at HO_22 HO_586001 HO_587001 HO594 HO598 BK576 BK585 BK586 BK600 HB hHeld ⊢
      refine one_ (i := 0) (N := some 54) #[true, false, false, false, false, false, false, false, false, false, false, false, false, false, false, false, false, false, false] rfl rfl (one_of HT_.out (by kernel_rfl)) (by decide) (fun K hK => ?_)
      refine goes_ Try.func17 (by kernel_rfl) rfl #[] (by rfl) rfl rfl ag ?_
      with_reducible refine (precinctlaw12_wakes.calls  false _ A51.out).mono ?_
      rintro e w74 ⟨rfl, hb⟩
      refine ⟨_, rfl, ?_⟩
      have n0_ := Aside0.mk (Kd.N_below (kN HO_22.out) hb)
      have n1_ := Aside0.mk (Kd.N_below (kN HO_586001.out) hb)
      have n2_ := Aside0.mk (Kd.N_below (kN HO_587001.out) hb)
      have n3_ := Aside0.mk (Kd.N_below (kN HO594.out) hb)
      have n4_ := Aside0.mk (Kd.N_below (kN HO598.out) hb)
      have n5_ := Aside0.mk (blk_below (rb BK576.out) hb)
      have n6_ := Aside0.mk (blk_below (rb BK585.out) hb)
      have n7_ := Aside0.mk (blk_below (rb BK586.out) hb)
      have n8_ := Aside0.mk (blk_below (rb BK600.out) hb)
      have n9_ := Aside0.mk (below_step bb hb)
      clear HO_22
      clear HO_586001
      clear HO_587001
      clear HO594
      clear HO598
      clear BK576
      clear BK585
      clear BK586
      clear BK600
      clear HB
      have HO_22 := n0_
      have HO_586001 := n1_
      have HO_587001 := n2_
      have HO594 := n3_
      have HO598 := n4_
      have BK576 := n5_
      have BK585 := n6_
      have BK586 := n7_
      have BK600 := n8_
      have HB := n9_
      clear n0_ n1_ n2_ n3_ n4_ n5_ n6_ n7_ n8_ n9_
      (try clear hb)
      (try clear hb2)
      (try clear hk)
      (try clear hi)
      refine hK.out _ _ trivial (fun hHeld => ?_)
      clear hK K
      refine norm_ (a' := ?_) ?_ ?_
      rotate_left
      ·show Act.put _ (some 54) _ = _
       simp only [Act.put, List.setIfInBounds_toArray, List.set_cons_zero, List.set_cons_succ, i64_w, i32_w]
       rfl
      refine pure_ (i := 1) (N := some 55) (v := ?_) (a' := ?_) #[true, true, false, false, false, false, false, false, false, false, false, false, false, false, false, false, false, false, false] rfl rfl (any_of HT_.out (by kernel_rfl)) (fun _ _ _ h => h) (Or.inl ⟨by rfl, ?_⟩) ?_ ?_
      rotate_left
      ·intro w'
       go_simp
       with_reducible rfl
      rotate_left
      ·simp only [Act.put, List.setIfInBounds_toArray, List.set_cons_zero, List.set_cons_succ, i64_w, i32_w]
       rfl
      refine pure_ (i := 2) (N := some 56) (v := ?_) (a' := ?_) #[true, true, true, false, false, false, false, false, false, false, false, false, false, false, false, false, false, false, false] rfl rfl (any_of HT_.out (by kernel_rfl)) (fun _ _ _ h => h) (Or.inl ⟨by rfl, ?_⟩) ?_ ?_
      rotate_left
      ·intro w'
       go_simp
       with_reducible rfl
      rotate_left
      ·simp only [Act.put, List.setIfInBounds_toArray, List.set_cons_zero, List.set_cons_succ, i64_w, i32_w]
       rfl
      refine pure_ (i := 3) (N := some 57) (v := undef) (a' := ?_) #[true, true, true, true, false, false, false, false, false, false, false, false, false, false, false, false, false, false, false] rfl rfl (any_of HT_.out (by kernel_rfl)) (fun _ _ _ h => h) (Or.inr ⟨by rfl, rfl⟩) ?_ ?_
      rotate_left
      ·simp only [Act.put, List.setIfInBounds_toArray, List.set_cons_zero, List.set_cons_succ, i64_w, i32_w]
       rfl
      refine pure_ (i := 4) (N := some 58) (v := undef) (a' := ?_) #[true, true, true, true, true, false, false, false, false, false, false, false, false, false, false, false, false, false, false] rfl rfl (any_of HT_.out (by kernel_rfl)) (fun _ _ _ h => h) (Or.inr ⟨by rfl, rfl⟩) ?_ ?_
      rotate_left
      ·simp only [Act.put, List.setIfInBounds_toArray, List.set_cons_zero, List.set_cons_succ, i64_w, i32_w]
       rfl
      refine pure_ (i := 5) (N := some 59) (v := undef) (a' := ?_) #[true, true, true, true, true, true, false, false, false, false, false, false, false, false, false, false, false, false, false] rfl rfl (any_of HT_.out (by kernel_rfl)) (fun _ _ _ h => h) (Or.inr ⟨by rfl, rfl⟩) ?_ ?_
      rotate_left
      ·simp only [Act.put, List.setIfInBounds_toArray, List.set_cons_zero, List.set_cons_succ, i64_w, i32_w]
       rfl
      refine pure_ (i := 6) (N := some 60) (v := undef) (a' := ?_) #[true, true, true, true, true, true, true, false, false, false, false, false, false, false, false, false, false, false, false] rfl rfl (any_of HT_.out (by kernel_rfl)) (fun _ _ _ h => h) (Or.inr ⟨by rfl, rfl⟩) ?_ ?_
      rotate_left
      ·simp only [Act.put, List.setIfInBounds_toArray, List.set_cons_zero, List.set_cons_succ, i64_w, i32_w]
       rfl
      refine pure_ (i := 7) (N := some 61) (v := ?_) (a' := ?_) #[true, true, true, true, true, true, true, true, false, false, false, false, false, false, false, false, false, false, false] rfl rfl (any_of HT_.out (by kernel_rfl)) (fun _ _ _ h => h) (Or.inl ⟨by rfl, ?_⟩) ?_ ?_
      rotate_left
      ·intro w'
       go_simp
       with_reducible rfl
      rotate_left
      ·simp only [Act.put, List.setIfInBounds_toArray, List.set_cons_zero, List.set_cons_succ, i64_w, i32_w]
       rfl
      refine pure_ (i := 8) (N := some 62) (v := ?_) (a' := ?_) #[true, true, true, true, true, true, true, true, true, false, false, false, false, false, false, false, false, false, false] rfl rfl (any_of HT_.out (by kernel_rfl)) (fun _ _ _ h => h) (Or.inl ⟨by rfl, ?_⟩) ?_ ?_
      rotate_left
      ·intro w'
       go_simp
       with_reducible rfl
      rotate_left
      ·simp only [Act.put, List.setIfInBounds_toArray, List.set_cons_zero, List.set_cons_succ, i64_w, i32_w]
       rfl
      refine pure_ (i := 9) (N := some 63) (v := undef) (a' := ?_) #[true, true, true, true, true, true, true, true, true, true, false, false, false, false, false, false, false, false, false] rfl rfl (any_of HT_.out (by kernel_rfl)) (fun _ _ _ h => h) (Or.inr ⟨by rfl, rfl⟩) ?_ ?_
      rotate_left
      ·simp only [Act.put, List.setIfInBounds_toArray, List.set_cons_zero, List.set_cons_succ, i64_w, i32_w]
       rfl
      refine pure_ (i := 10) (N := some 64) (v := undef) (a' := ?_) #[true, true, true, true, true, true, true, true, true, true, true, false, false, false, false, false, false, false, false] rfl rfl (any_of HT_.out (by kernel_rfl)) (fun _ _ _ h => h) (Or.inr ⟨by rfl, rfl⟩) ?_ ?_
      rotate_left
      ·simp only [Act.put, List.setIfInBounds_toArray, List.set_cons_zero, List.set_cons_succ, i64_w, i32_w]
       rfl
      refine pure_ (i := 11) (N := some 65) (v := undef) (a' := ?_) #[true, true, true, true, true, true, true, true, true, true, true, true, false, false, false, false, false, false, false] rfl rfl (any_of HT_.out (by kernel_rfl)) (fun _ _ _ h => h) (Or.inr ⟨by rfl, rfl⟩) ?_ ?_
      rotate_left
      ·simp only [Act.put, List.setIfInBounds_toArray, List.set_cons_zero, List.set_cons_succ, i64_w, i32_w]
       rfl
      refine pure_ (i := 12) (N := some 66) (v := undef) (a' := ?_) #[true, true, true, true, true, true, true, true, true, true, true, true, true, false, false, false, false, false, false] rfl rfl (any_of HT_.out (by kernel_rfl)) (fun _ _ _ h => h) (Or.inr ⟨by rfl, rfl⟩) ?_ ?_
      rotate_left
      ·simp only [Act.put, List.setIfInBounds_toArray, List.set_cons_zero, List.set_cons_succ, i64_w, i32_w]
       rfl
      refine pure_ (i := 13) (N := some 67) (v := undef) (a' := ?_) #[true, true, true, true, true, true, true, true, true, true, true, true, true, true, false, false, false, false, false] rfl rfl (any_of HT_.out (by kernel_rfl)) (fun _ _ _ h => h) (Or.inr ⟨by rfl, rfl⟩) ?_ ?_
      rotate_left
      ·simp only [Act.put, List.setIfInBounds_toArray, List.set_cons_zero, List.set_cons_succ, i64_w, i32_w]
       rfl
      refine pure_ (i := 14) (N := some 68) (v := undef) (a' := ?_) #[true, true, true, true, true, true, true, true, true, true, true, true, true, true, true, false, false, false, false] rfl rfl (any_of HT_.out (by kernel_rfl)) (fun _ _ _ h => h) (Or.inr ⟨by rfl, rfl⟩) ?_ ?_
      rotate_left
      ·simp only [Act.put, List.setIfInBounds_toArray, List.set_cons_zero, List.set_cons_succ, i64_w, i32_w]
       rfl
      refine pure_ (i := 15) (N := some 69) (v := undef) (a' := ?_) #[true, true, true, true, true, true, true, true, true, true, true, true, true, true, true, true, false, false, false] rfl rfl (any_of HT_.out (by kernel_rfl)) (fun _ _ _ h => h) (Or.inr ⟨by rfl, rfl⟩) ?_ ?_
      rotate_left
      ·simp only [Act.put, List.setIfInBounds_toArray, List.set_cons_zero, List.set_cons_succ, i64_w, i32_w]
       rfl
      refine pure_ (i := 16) (N := some 70) (v := undef) (a' := ?_) #[true, true, true, true, true, true, true, true, true, true, true, true, true, true, true, true, true, false, false] rfl rfl (any_of HT_.out (by kernel_rfl)) (fun _ _ _ h => h) (Or.inr ⟨by rfl, rfl⟩) ?_ ?_
      rotate_left
      ·simp only [Act.put, List.setIfInBounds_toArray, List.set_cons_zero, List.set_cons_succ, i64_w, i32_w]
       rfl
      refine pure_ (i := 17) (N := some 71) (v := undef) (a' := ?_) #[true, true, true, true, true, true, true, true, true, true, true, true, true, true, true, true, true, true, false] rfl rfl (any_of HT_.out (by kernel_rfl)) (fun _ _ _ h => h) (Or.inr ⟨by rfl, rfl⟩) ?_ ?_
      rotate_left
      ·simp only [Act.put, List.setIfInBounds_toArray, List.set_cons_zero, List.set_cons_succ, i64_w, i32_w]
       rfl
      refine pure_ (i := 18) (N := some 72) (v := ?_) (a' := ?_) #[true, true, true, true, true, true, true, true, true, true, true, true, true, true, true, true, true, true, true] rfl rfl (any_of HT_.out (by kernel_rfl)) (fun _ _ _ h => h) (Or.inl ⟨by rfl, ?_⟩) ?_ ?_
      rotate_left
      ·intro w'
       go_simp
       with_reducible rfl
      rotate_left
      ·simp only [Act.put, List.setIfInBounds_toArray, List.set_cons_zero, List.set_cons_succ, i64_w, i32_w]
       rfl
      refine done_ (done_of HT_.out (by kernel_rfl)) ?_
      try go_wp2
      go_meet
      case rel => exact ⟨_, (true), (by first | rfl | (simp; done) | (simp [*]; done)), H', ⟨by have := HK1.out; first | omega | exact Nat.le_refl _⟩, ⟨kN (Kd.N_mono HO_586001.out (fun _ hk => ⟨hk.1, ⟨hk.2.2.1, ⟨hk.2.2.2.1, ⟨hk.2.2.2.2.1, ⟨hk.2.2.2.2.2.1, hk.2.2.2.2.2.2⟩⟩⟩⟩⟩))⟩, ⟨kN (Kd.N_mono HO_587001.out (fun _ hk => ⟨hk.2.1, ⟨hk.2.2.2.1, ⟨hk.2.2.2.2.1, ⟨hk.2.2.2.2.2.1, ⟨hk.2.2.2.2.2.2.1, hk.2.2.2.2.2.2.2⟩⟩⟩⟩⟩))⟩, ⟨kN (Kd.N_mono HO598.out (fun _ hk => ⟨hk.2.1, ⟨hk.2.2.1, ⟨hk.2.2.2.2.1, ⟨hk.2.2.2.2.2.1, ⟨hk.2.2.2.2.2.2.1, hk.2.2.2.2.2.2.2⟩⟩⟩⟩⟩))⟩, ⟨by (with_reducible repeat (first | refine blk_drewN ?_ _ | refine blk_drew ?_ | refine blk_alloc ?_ _)); exact BK576.out⟩, ⟨by (with_reducible repeat (first | refine blk_drewN ?_ _ | refine blk_drew ?_ | refine blk_alloc ?_ _)); exact BK585.out⟩, ⟨by (with_reducible repeat (first | refine blk_drewN ?_ _ | refine blk_drew ?_ | refine blk_alloc ?_ _)); exact BK586.out⟩, ⟨by (with_reducible repeat (first | refine blk_drewN ?_ _ | refine blk_drew ?_ | refine blk_alloc ?_ _)); exact BK600.out⟩, ⟨bb⟩⟩
    case rest =>
     clear HC38
     try clear c1
     try clear c2
     try clear p2
     try clear c5
     try clear c17
     try clear c27
     try clear c52
     try clear c57
     obtain ⟨kq, x72_37, rfl, HA, HJ37, HO_586001, HO_587001, HO_601001, BK576, BK585, BK586, BK600, HB⟩ := hcut
     cases kq with
     | zero => exact absurd HA.out (by simp [precinctlaw12_GraphBack.j1])
     | succ kj37 =>
      have H := HA.out
      clear HA
      simp only [precinctlaw12_GraphBack.j1] at H
      by_cases c75 : x72_37 = true
      ·subst c75
       have H1 : (some false) = some r := by rw [if_pos rfl] at H; exact H
       clear H
       have H := H1
       clear H1
       exact absurd ((Option.some.inj H).trans hT_.out) (by decide)
      ·replace c75 := Bool.eq_false_iff.mpr c75
       subst c75
       have H1 : ((precinctlaw12_build.f l1).bind fun bt615 => ((graph_Read.f kj37 bt615.1 bt615.2.1 bt615.2.2.1 bt615.2.2.2.1).bind fun bt629 => (if bt629.2.2 = 0 then ((graph_Value.f kj37 bt629.1 bt629.2.1).bind fun bt635 => ((pack_Equal.f bt635.1 bt635.2.1 bt635.2.2.1 bt635.2.2.2 bt615.1 bt615.2.1 bt615.2.2.1 bt615.2.2.2.1).bind fun t641 => (some t641))) else (if bt629.2.2 = 4 then (some true) else (some false))))) = some r := by rw [if_neg (show ¬ (false = true) by decide)] at H; exact H
       clear H
       have H := H1
       clear H1
       replace H := Option.bind_eq_some_iff.mp H
       obtain ⟨⟨t615, t616, t617, t618, t621, t622, t623, t624⟩, A760, H⟩ := H
       replace H : ((graph_Read.f kj37 t615 t616 t617 t618).bind fun bt629 => (if bt629.2.2 = 0 then ((graph_Value.f kj37 bt629.1 bt629.2.1).bind fun bt635 => ((pack_Equal.f bt635.1 bt635.2.1 bt635.2.2.1 bt635.2.2.2 t615 t616 t617 t618).bind fun t641 => (some t641))) else (if bt629.2.2 = 4 then (some true) else (some false)))) = some r := H
       have A76 := Aside0.mk A760
       clear A760
       replace H := Option.bind_eq_some_iff.mp H
       obtain ⟨⟨t629, t630, t633⟩, A770, H⟩ := H
       replace H : (if t633 = 0 then ((graph_Value.f kj37 t629 t630).bind fun bt635 => ((pack_Equal.f bt635.1 bt635.2.1 bt635.2.2.1 bt635.2.2.2 t615 t616 t617 t618).bind fun t641 => (some t641))) else (if t633 = 4 then (some true) else (some false))) = some r := H
       have A77 := Aside0.mk A770
       clear A770
       by_cases c78 : t633 = 0
       ·rw [if_pos c78] at H
        have c78b0 : (t633 == 0) = true := beq_iff_eq.mpr c78
        have c78b1 : (t633 != 0) = false := bne_eq_false_iff_eq.mpr c78
        clear c78
        replace H := Option.bind_eq_some_iff.mp H
        obtain ⟨⟨t635, t636, t637, t638⟩, A790, H⟩ := H
        replace H : ((pack_Equal.f t635 t636 t637 t638 t615 t616 t617 t618).bind fun t641 => (some t641)) = some r := H
        have A79 := Aside0.mk A790
        clear A790
        replace H := Option.bind_eq_some_iff.mp H
        obtain ⟨t641, A800, H⟩ := H
        replace H : (some t641) = some r := H
        have A80 := Aside0.mk A800
        clear A800
        obtain rfl := Option.some.inj H
        try go_wp2_with (first | ((with_reducible refine gate_callee (f := 21) rfl ?_); refine goesL_ (some 75) rfl rfl Try.func21 (by kernel_rfl) rfl #[.slice A1 l1.length c1] rfl ag ?_; (with_reducible refine (precinctlaw12_build.calls _ _ l1 t615 t616 t617 t618 t621 t622 t623 t624 _ ?side1 ?side2 A76.out).mono ?_); (case side1 => repeat (first | exact (Kd.C_below HR1.out HB.out) | (with_reducible refine Kd.C_alloc ?_ _) | (with_reducible refine Kd.C_drewN ?_ _) | (with_reducible refine Kd.C_drew ?_))); (case side2 => exact HC1.out); rintro e w81 ⟨v619, v625, rfl, ho0, ho1, hb⟩; refine ⟨_, rfl, ?_⟩; have n0_ := Aside0.mk (Kd.N_mono (Kd.N_told (Kd.N_told (Kd.N_old (kN HO_586001.out) hb) (by first | exact Kd.N_base ho0 | exact Kd.N_base (Kd.R_N ho0) | exact Kd.N_base (Kd.S_N ho0))) (by first | exact Kd.N_base ho1 | exact Kd.N_base (Kd.R_N ho1) | exact Kd.N_base (Kd.S_N ho1))) (fun _ h_ => h_.1)); have n1_ := Aside0.mk (Kd.N_mono (Kd.N_told (Kd.N_told (Kd.N_old (kN HO_587001.out) hb) (by first | exact Kd.N_base ho0 | exact Kd.N_base (Kd.R_N ho0) | exact Kd.N_base (Kd.S_N ho0))) (by first | exact Kd.N_base ho1 | exact Kd.N_base (Kd.R_N ho1) | exact Kd.N_base (Kd.S_N ho1))) (fun _ h_ => h_.1)); have n2_ := Aside0.mk (Kd.N_mono (Kd.N_told (Kd.N_told (Kd.N_old (kN HO_601001.out) hb) (by first | exact Kd.N_base ho0 | exact Kd.N_base (Kd.R_N ho0) | exact Kd.N_base (Kd.S_N ho0))) (by first | exact Kd.N_base ho1 | exact Kd.N_base (Kd.R_N ho1) | exact Kd.N_base (Kd.S_N ho1))) (fun _ h_ => h_.1)); have n3_ := Aside0.mk (Kd.N_lower (Kd.N_mono (ok' := fun k_ => some k_ ≠ (v625 : Value).ownBlock ∧ some k_ ≠ (.slice Ao12 t578.length co12 : Value).ownBlock ∧ some k_ ≠ (.slice Ao15 t582.length co15 : Value).ownBlock ∧ some k_ ≠ (.slice Ao50 t596.length co50 : Value).ownBlock ∧ k_ ≠ gb576 ∧ k_ ≠ gb585 ∧ k_ ≠ gb586 ∧ k_ ≠ gb600) (Kd.R_N (Kd.R_bound (Kd.R_apart' ho0 (Kd.R_typed ho1) (by decide)))) (fun k_ hk_ => ⟨hk_.1.2, (Kd.fresh' (Kd.N_lt (kN HO_586001.out)) k_ hk_.2.1), (Kd.fresh' (Kd.N_lt (kN HO_587001.out)) k_ hk_.2.1), (Kd.fresh' (Kd.N_lt (kN HO_601001.out)) k_ hk_.2.1), (Kd.freshB (rb BK576.out) k_ hk_.2.1), (Kd.freshB (rb BK585.out) k_ hk_.2.1), (Kd.freshB (rb BK586.out) k_ hk_.2.1), (Kd.freshB (rb BK600.out) k_ hk_.2.1)⟩)) (below_size bb)); have n4_ := Aside0.mk (Kd.N_lower (Kd.N_mono (ok' := fun k_ => some k_ ≠ (v619 : Value).ownBlock ∧ some k_ ≠ (.slice Ao12 t578.length co12 : Value).ownBlock ∧ some k_ ≠ (.slice Ao15 t582.length co15 : Value).ownBlock ∧ some k_ ≠ (.slice Ao50 t596.length co50 : Value).ownBlock ∧ k_ ≠ gb576 ∧ k_ ≠ gb585 ∧ k_ ≠ gb586 ∧ k_ ≠ gb600) (Kd.R_N (Kd.R_bound (Kd.R_apart' ho1 (Kd.R_typed ho0) (by decide)))) (fun k_ hk_ => ⟨hk_.1.2, (Kd.fresh' (Kd.N_lt (kN HO_586001.out)) k_ hk_.2.1), (Kd.fresh' (Kd.N_lt (kN HO_587001.out)) k_ hk_.2.1), (Kd.fresh' (Kd.N_lt (kN HO_601001.out)) k_ hk_.2.1), (Kd.freshB (rb BK576.out) k_ hk_.2.1), (Kd.freshB (rb BK585.out) k_ hk_.2.1), (Kd.freshB (rb BK586.out) k_ hk_.2.1), (Kd.freshB (rb BK600.out) k_ hk_.2.1)⟩)) (below_size bb)); have n5_ := Aside0.mk (blk_below (rb BK576.out) hb); have n6_ := Aside0.mk (blk_below (rb BK585.out) hb); have n7_ := Aside0.mk (blk_below (rb BK586.out) hb); have n8_ := Aside0.mk (blk_below (rb BK600.out) hb); have n9_ := Aside0.mk (below_step bb hb); clear HO_586001; clear HO_587001; clear HO_601001; clear BK576; clear BK585; clear BK586; clear BK600; clear HB; have HO_586001 := n0_; have HO_587001 := n1_; have HO_601001 := n2_; have HO620 := n3_; have HO626 := n4_; have BK576 := n5_; have BK585 := n6_; have BK586 := n7_; have BK600 := n8_; have HB := n9_; clear n0_ n1_ n2_ n3_ n4_ n5_ n6_ n7_ n8_ n9_; (try clear hb); (try clear hb2); (try clear hk); (try clear hi); (try clear ho0); (try clear ho1)) | ((with_reducible refine gate_dst (N := 12) rfl ?_); refine box_event ?hg (N := 12) ?hd (cs := #[.int .i64 0, .int .i64 0, .string (⟨#[]⟩ : ByteArray), .slice none 0 0]) (t := 54) ?hr ?_; (case hd => rfl); (case hg => rfl); (case hr => first | (go_simp; done) | (go_simp; rfl)); intro gb627 hg w82 hbox hb; have n0_ := Aside0.mk (Kd.N_below (Kd.N_elderB (kN HO_586001.out) gb627 (Nat.le_of_eq hg.symm)) hb); have n1_ := Aside0.mk (Kd.N_below (Kd.N_elderB (kN HO_587001.out) gb627 (Nat.le_of_eq hg.symm)) hb); have n2_ := Aside0.mk (Kd.N_below (Kd.N_elderB (kN HO_601001.out) gb627 (Nat.le_of_eq hg.symm)) hb); have n3_ := Aside0.mk (Kd.N_below (Kd.N_elderB (kN HO620.out) gb627 (Nat.le_of_eq hg.symm)) hb); have n4_ := Aside0.mk (Kd.N_below (Kd.N_elderB (kN HO626.out) gb627 (Nat.le_of_eq hg.symm)) hb); have n5_ := Aside0.mk (blk_below (rb BK576.out) hb); have n6_ := Aside0.mk (blk_below (rb BK585.out) hb); have n7_ := Aside0.mk (blk_below (rb BK586.out) hb); have n8_ := Aside0.mk (blk_below (rb BK600.out) hb); have n9_ := Aside0.mk (below_step bb hb); have n10_ := Aside0.mk (hbox); have n11_ := Aside0.mk ((by rw [hg]; exact (below_size bb) : w.heap.size ≤ gb627)); have n12_ := Aside0.mk ((by rw [hg]; exact (below_size bb) : w.heap.size ≤ gb627)); have n13_ := Aside0.mk ((by rw [hg]; exact Nat.ne_of_lt (blk_lt (rb BK576.out)) : gb576 ≠ gb627)); have n14_ := Aside0.mk ((by rw [hg]; exact Nat.ne_of_gt (blk_lt (rb BK576.out)) : gb627 ≠ gb576)); have n15_ := Aside0.mk ((by rw [hg]; exact Nat.ne_of_lt (blk_lt (rb BK585.out)) : gb585 ≠ gb627)); have n16_ := Aside0.mk ((by rw [hg]; exact Nat.ne_of_gt (blk_lt (rb BK585.out)) : gb627 ≠ gb585)); have n17_ := Aside0.mk ((by rw [hg]; exact Nat.ne_of_lt (blk_lt (rb BK586.out)) : gb586 ≠ gb627)); have n18_ := Aside0.mk ((by rw [hg]; exact Nat.ne_of_gt (blk_lt (rb BK586.out)) : gb627 ≠ gb586)); have n19_ := Aside0.mk ((by rw [hg]; exact Nat.ne_of_lt (blk_lt (rb BK600.out)) : gb600 ≠ gb627)); have n20_ := Aside0.mk ((by rw [hg]; exact Nat.ne_of_gt (blk_lt (rb BK600.out)) : gb627 ≠ gb600)); clear HO_586001; clear HO_587001; clear HO_601001; clear HO620; clear HO626; clear BK576; clear BK585; clear BK586; clear BK600; clear HB; have HO_586001 := n0_; have HO_587001 := n1_; have HO_601001 := n2_; have HO620 := n3_; have HO626 := n4_; have BK576 := n5_; have BK585 := n6_; have BK586 := n7_; have BK600 := n8_; have HB := n9_; have BK627 := n10_; have GW627 := n11_; have GE627 := n12_; have NB576_627 := n13_; have NB627_576 := n14_; have NB585_627 := n15_; have NB627_585 := n16_; have NB586_627 := n17_; have NB627_586 := n18_; have NB600_627 := n19_; have NB627_600 := n20_; clear n0_ n1_ n2_ n3_ n4_ n5_ n6_ n7_ n8_ n9_ n10_ n11_ n12_ n13_ n14_ n15_ n16_ n17_ n18_ n19_ n20_; clear hb hbox hg) | ((with_reducible refine gate_dst (N := 13) rfl ?_); refine box_event ?hg (N := 13) ?hd (cs := #[.int .i64 0, .int .i64 0, .string (⟨#[]⟩ : ByteArray), .slice none 0 0]) (t := 57) ?hr ?_; (case hd => rfl); (case hg => rfl); (case hr => first | (go_simp; done) | (go_simp; rfl)); intro gb628 hg w83 hbox hb; have n0_ := Aside0.mk (Kd.N_below (Kd.N_elderB (kN HO_586001.out) gb628 (Nat.le_of_eq hg.symm)) hb); have n1_ := Aside0.mk (Kd.N_below (Kd.N_elderB (kN HO_587001.out) gb628 (Nat.le_of_eq hg.symm)) hb); have n2_ := Aside0.mk (Kd.N_below (Kd.N_elderB (kN HO_601001.out) gb628 (Nat.le_of_eq hg.symm)) hb); have n3_ := Aside0.mk (Kd.N_below (Kd.N_elderB (kN HO620.out) gb628 (Nat.le_of_eq hg.symm)) hb); have n4_ := Aside0.mk (Kd.N_below (Kd.N_elderB (kN HO626.out) gb628 (Nat.le_of_eq hg.symm)) hb); have n5_ := Aside0.mk (blk_below (rb BK576.out) hb); have n6_ := Aside0.mk (blk_below (rb BK585.out) hb); have n7_ := Aside0.mk (blk_below (rb BK586.out) hb); have n8_ := Aside0.mk (blk_below (rb BK600.out) hb); have n9_ := Aside0.mk (blk_below (g := gb627) (o := .cells #[.int .i64 0, .int .i64 0, .string (⟨#[]⟩ : ByteArray), .slice none 0 0] 54 (0, 0)) (rb BK627.out) hb); have n10_ := Aside0.mk (below_step bb hb); have n11_ := Aside0.mk (hbox); have n12_ := Aside0.mk ((by rw [hg]; exact (below_size bb) : w.heap.size ≤ gb628)); have n13_ := Aside0.mk ((by rw [hg]; exact (below_size bb) : w.heap.size ≤ gb628)); have n14_ := Aside0.mk ((by rw [hg]; exact Nat.ne_of_lt (blk_lt (rb BK576.out)) : gb576 ≠ gb628)); have n15_ := Aside0.mk ((by rw [hg]; exact Nat.ne_of_gt (blk_lt (rb BK576.out)) : gb628 ≠ gb576)); have n16_ := Aside0.mk ((by rw [hg]; exact Nat.ne_of_lt (blk_lt (rb BK585.out)) : gb585 ≠ gb628)); have n17_ := Aside0.mk ((by rw [hg]; exact Nat.ne_of_gt (blk_lt (rb BK585.out)) : gb628 ≠ gb585)); have n18_ := Aside0.mk ((by rw [hg]; exact Nat.ne_of_lt (blk_lt (rb BK586.out)) : gb586 ≠ gb628)); have n19_ := Aside0.mk ((by rw [hg]; exact Nat.ne_of_gt (blk_lt (rb BK586.out)) : gb628 ≠ gb586)); have n20_ := Aside0.mk ((by rw [hg]; exact Nat.ne_of_lt (blk_lt (rb BK600.out)) : gb600 ≠ gb628)); have n21_ := Aside0.mk ((by rw [hg]; exact Nat.ne_of_gt (blk_lt (rb BK600.out)) : gb628 ≠ gb600)); have n22_ := Aside0.mk ((by rw [hg]; exact Nat.ne_of_lt (blk_lt (g := gb627) (o := .cells #[.int .i64 0, .int .i64 0, .string (⟨#[]⟩ : ByteArray), .slice none 0 0] 54 (0, 0)) (rb BK627.out)) : gb627 ≠ gb628)); have n23_ := Aside0.mk ((by rw [hg]; exact Nat.ne_of_gt (blk_lt (g := gb627) (o := .cells #[.int .i64 0, .int .i64 0, .string (⟨#[]⟩ : ByteArray), .slice none 0 0] 54 (0, 0)) (rb BK627.out)) : gb628 ≠ gb627)); clear HO_586001; clear HO_587001; clear HO_601001; clear HO620; clear HO626; clear BK576; clear BK585; clear BK586; clear BK600; clear BK627; clear HB; have HO_586001 := n0_; have HO_587001 := n1_; have HO_601001 := n2_; have HO620 := n3_; have HO626 := n4_; have BK576 := n5_; have BK585 := n6_; have BK586 := n7_; have BK600 := n8_; have BK627 := n9_; have HB := n10_; have BK628 := n11_; have GW628 := n12_; have GE628 := n13_; have NB576_628 := n14_; have NB628_576 := n15_; have NB585_628 := n16_; have NB628_585 := n17_; have NB586_628 := n18_; have NB628_586 := n19_; have NB600_628 := n20_; have NB628_600 := n21_; have NB627_628 := n22_; have NB628_627 := n23_; clear n0_ n1_ n2_ n3_ n4_ n5_ n6_ n7_ n8_ n9_ n10_ n11_ n12_ n13_ n14_ n15_ n16_ n17_ n18_ n19_ n20_ n21_ n22_ n23_; clear hb hbox hg; have hnb84 := NB627_576.out; have hnc84 := NB576_627.out; have hnb85 := NB627_585.out; have hnc85 := NB585_627.out; have hnb86 := NB627_586.out; have hnc86 := NB586_627.out; have hnb87 := NB627_600.out; have hnc87 := NB600_627.out; have hnb88 := NB627_628.out; have hnc88 := NB628_627.out; have hcz89_0 : w83.cell? ⟨gb627, 0, none⟩ = some (.int .i64 0) := (blk_cell BK627.out 0).trans rfl; have hcz89_1 : w83.cell? ⟨gb627, 1, none⟩ = some (.int .i64 0) := (blk_cell BK627.out 1).trans rfl; have hcz89_2 : w83.cell? ⟨gb627, 2, none⟩ = some (.string (⟨#[]⟩ : ByteArray)) := (blk_cell BK627.out 2).trans rfl; have hcz89_3 : w83.cell? ⟨gb627, 3, none⟩ = some (.slice none 0 0) := (blk_cell BK627.out 3).trans rfl; have hfz89_0 := blk_frozen BK627.out 0; have hfz89_1 := blk_frozen BK627.out 1; have hfz89_2 := blk_frozen BK627.out 2; have hfz89_3 := blk_frozen BK627.out 3; obtain ⟨Ao90, co90, eo90⟩ := Kd.N_slice HO620.out; subst eo90; have hnb91 := NB628_576.out; have hnc91 := NB576_628.out; have hnb92 := NB628_585.out; have hnc92 := NB585_628.out; have hnb93 := NB628_586.out; have hnc93 := NB586_628.out; have hnb94 := NB628_600.out; have hnc94 := NB600_628.out; have hcz95_0 : w83.cell? ⟨gb628, 0, none⟩ = some (.int .i64 0) := (blk_cell BK628.out 0).trans rfl; have hcz95_1 : w83.cell? ⟨gb628, 1, none⟩ = some (.int .i64 0) := (blk_cell BK628.out 1).trans rfl; have hcz95_2 : w83.cell? ⟨gb628, 2, none⟩ = some (.string (⟨#[]⟩ : ByteArray)) := (blk_cell BK628.out 2).trans rfl; have hcz95_3 : w83.cell? ⟨gb628, 3, none⟩ = some (.slice none 0 0) := (blk_cell BK628.out 3).trans rfl; have hfz95_0 := blk_frozen BK628.out 0; have hfz95_1 := blk_frozen BK628.out 1; have hfz95_2 := blk_frozen BK628.out 2; have hfz95_3 := blk_frozen BK628.out 3; obtain ⟨Ao96, co96, eo96⟩ := Kd.N_slice HO626.out; subst eo96) | ((with_reducible refine gate_callee (f := 22) rfl ?_); refine goesL_ (some 80) rfl rfl Try.func22 (by kernel_rfl) rfl #[.agg #[.int .i64 t615, .int .i64 t616, .string t617, .slice Ao90 t618.length co90]] rfl ag ?_; (with_reducible refine (graph_Read.calls kj37 t615 t616 t617 _ _ t618 t629 t630 t633 _ ?side1 ?side2 A77.out).mono ?_); (case side1 => refine (Kd.N_reads' (e := 54) (base := w.heap.size) (ok := fun k_ => (((some k_ ≠ (.slice Ao96 t624.length co96 : Value).ownBlock ∧ (some k_ ≠ (.slice Ao12 t578.length co12 : Value).ownBlock ∧ (some k_ ≠ (.slice Ao15 t582.length co15 : Value).ownBlock ∧ (some k_ ≠ (.slice Ao50 t596.length co50 : Value).ownBlock ∧ (k_ ≠ gb576 ∧ (k_ ≠ gb585 ∧ (k_ ≠ gb586 ∧ k_ ≠ gb600))))))) ∧ k_ ≠ gb627) ∧ k_ ≠ gb628)) (n := t618.length) (c := co90) ?_).2.2; exact (kN ((Kd.N_mono (Kd.N_mono (Kd.N_far (p := ⟨gb628, 3, none⟩) (Kd.N_far (p := ⟨gb628, 2, none⟩) (Kd.N_far (p := ⟨gb628, 1, none⟩) (Kd.N_far (p := ⟨gb628, 0, none⟩) (Kd.N_far (p := ⟨gb627, 3, none⟩) (Kd.N_far (p := ⟨gb627, 2, none⟩) (Kd.N_far (p := ⟨gb627, 1, none⟩) (Kd.N_far (p := ⟨gb627, 0, none⟩) (Kd.N_mono (Kd.N_mono HO620.out (fun k_ hk => (⟨hk, hk.1.2⟩ : _ ∧ k_ ≠ gb627))) (fun k_ hk => (⟨hk, hk.1.2⟩ : _ ∧ k_ ≠ gb628))) (fun _ hk => hk.1.2) (.int .i64 t615)) (fun _ hk => hk.1.2) (.int .i64 t616)) (fun _ hk => hk.1.2) (.string t617)) (fun _ hk => hk.1.2) (.slice Ao90 t618.length co90)) (fun _ hk => hk.2) (.int .i64 t621)) (fun _ hk => hk.2) (.int .i64 t622)) (fun _ hk => hk.2) (.string t623)) (fun _ hk => hk.2) (.slice Ao96 t624.length co96)) (fun _ h_ => h_.1)) (fun _ h_ => h_.1))))); (case side2 => exact (Kd.N_reads' HO620.out).2.1); rintro e w97 ⟨v631, rfl, ho0, hb⟩; refine ⟨_, rfl, ?_⟩; have n0_ := Aside0.mk (Kd.N_elder' (kN ((Kd.N_mono (Kd.N_mono (Kd.N_far (p := ⟨gb628, 3, none⟩) (Kd.N_far (p := ⟨gb628, 2, none⟩) (Kd.N_far (p := ⟨gb628, 1, none⟩) (Kd.N_far (p := ⟨gb628, 0, none⟩) (Kd.N_far (p := ⟨gb627, 3, none⟩) (Kd.N_far (p := ⟨gb627, 2, none⟩) (Kd.N_far (p := ⟨gb627, 1, none⟩) (Kd.N_far (p := ⟨gb627, 0, none⟩) (Kd.N_mono (Kd.N_mono HO_586001.out (fun k_ hk => (⟨hk, hk.1.2⟩ : _ ∧ k_ ≠ gb627))) (fun k_ hk => (⟨hk, hk.1.2⟩ : _ ∧ k_ ≠ gb628))) (fun _ hk => hk.1.2) (.int .i64 t615)) (fun _ hk => hk.1.2) (.int .i64 t616)) (fun _ hk => hk.1.2) (.string t617)) (fun _ hk => hk.1.2) (.slice Ao90 t618.length co90)) (fun _ hk => hk.2) (.int .i64 t621)) (fun _ hk => hk.2) (.int .i64 t622)) (fun _ hk => hk.2) (.string t623)) (fun _ hk => hk.2) (.slice Ao96 t624.length co96)) (fun _ h_ => h_.1)) (fun _ h_ => h_.1)))) (by first | exact Kd.N_base ho0 | exact Kd.N_base (Kd.R_N ho0) | exact Kd.N_base (Kd.S_N ho0)) hb); have n1_ := Aside0.mk (Kd.N_elder' (kN ((Kd.N_mono (Kd.N_mono (Kd.N_far (p := ⟨gb628, 3, none⟩) (Kd.N_far (p := ⟨gb628, 2, none⟩) (Kd.N_far (p := ⟨gb628, 1, none⟩) (Kd.N_far (p := ⟨gb628, 0, none⟩) (Kd.N_far (p := ⟨gb627, 3, none⟩) (Kd.N_far (p := ⟨gb627, 2, none⟩) (Kd.N_far (p := ⟨gb627, 1, none⟩) (Kd.N_far (p := ⟨gb627, 0, none⟩) (Kd.N_mono (Kd.N_mono HO_587001.out (fun k_ hk => (⟨hk, hk.1.2⟩ : _ ∧ k_ ≠ gb627))) (fun k_ hk => (⟨hk, hk.1.2⟩ : _ ∧ k_ ≠ gb628))) (fun _ hk => hk.1.2) (.int .i64 t615)) (fun _ hk => hk.1.2) (.int .i64 t616)) (fun _ hk => hk.1.2) (.string t617)) (fun _ hk => hk.1.2) (.slice Ao90 t618.length co90)) (fun _ hk => hk.2) (.int .i64 t621)) (fun _ hk => hk.2) (.int .i64 t622)) (fun _ hk => hk.2) (.string t623)) (fun _ hk => hk.2) (.slice Ao96 t624.length co96)) (fun _ h_ => h_.1)) (fun _ h_ => h_.1)))) (by first | exact Kd.N_base ho0 | exact Kd.N_base (Kd.R_N ho0) | exact Kd.N_base (Kd.S_N ho0)) hb); have n2_ := Aside0.mk (Kd.N_elder' (kN ((Kd.N_mono (Kd.N_mono (Kd.N_far (p := ⟨gb628, 3, none⟩) (Kd.N_far (p := ⟨gb628, 2, none⟩) (Kd.N_far (p := ⟨gb628, 1, none⟩) (Kd.N_far (p := ⟨gb628, 0, none⟩) (Kd.N_far (p := ⟨gb627, 3, none⟩) (Kd.N_far (p := ⟨gb627, 2, none⟩) (Kd.N_far (p := ⟨gb627, 1, none⟩) (Kd.N_far (p := ⟨gb627, 0, none⟩) (Kd.N_mono (Kd.N_mono HO_601001.out (fun k_ hk => (⟨hk, hk.1.2⟩ : _ ∧ k_ ≠ gb627))) (fun k_ hk => (⟨hk, hk.1.2⟩ : _ ∧ k_ ≠ gb628))) (fun _ hk => hk.1.2) (.int .i64 t615)) (fun _ hk => hk.1.2) (.int .i64 t616)) (fun _ hk => hk.1.2) (.string t617)) (fun _ hk => hk.1.2) (.slice Ao90 t618.length co90)) (fun _ hk => hk.2) (.int .i64 t621)) (fun _ hk => hk.2) (.int .i64 t622)) (fun _ hk => hk.2) (.string t623)) (fun _ hk => hk.2) (.slice Ao96 t624.length co96)) (fun _ h_ => h_.1)) (fun _ h_ => h_.1)))) (by first | exact Kd.N_base ho0 | exact Kd.N_base (Kd.R_N ho0) | exact Kd.N_base (Kd.S_N ho0)) hb); have n3_ := Aside0.mk (Kd.N_elder' (kN ((Kd.N_mono (Kd.N_mono (Kd.N_far (p := ⟨gb628, 3, none⟩) (Kd.N_far (p := ⟨gb628, 2, none⟩) (Kd.N_far (p := ⟨gb628, 1, none⟩) (Kd.N_far (p := ⟨gb628, 0, none⟩) (Kd.N_far (p := ⟨gb627, 3, none⟩) (Kd.N_far (p := ⟨gb627, 2, none⟩) (Kd.N_far (p := ⟨gb627, 1, none⟩) (Kd.N_far (p := ⟨gb627, 0, none⟩) (Kd.N_mono (Kd.N_mono HO620.out (fun k_ hk => (⟨hk, hk.1.2⟩ : _ ∧ k_ ≠ gb627))) (fun k_ hk => (⟨hk, hk.1.2⟩ : _ ∧ k_ ≠ gb628))) (fun _ hk => hk.1.2) (.int .i64 t615)) (fun _ hk => hk.1.2) (.int .i64 t616)) (fun _ hk => hk.1.2) (.string t617)) (fun _ hk => hk.1.2) (.slice Ao90 t618.length co90)) (fun _ hk => hk.2) (.int .i64 t621)) (fun _ hk => hk.2) (.int .i64 t622)) (fun _ hk => hk.2) (.string t623)) (fun _ hk => hk.2) (.slice Ao96 t624.length co96)) (fun _ h_ => h_.1)) (fun _ h_ => h_.1)))) (by first | exact Kd.N_base ho0 | exact Kd.N_base (Kd.R_N ho0) | exact Kd.N_base (Kd.S_N ho0)) hb); have n4_ := Aside0.mk (Kd.N_elder' (kN ((Kd.N_mono (Kd.N_mono (Kd.N_far (p := ⟨gb628, 3, none⟩) (Kd.N_far (p := ⟨gb628, 2, none⟩) (Kd.N_far (p := ⟨gb628, 1, none⟩) (Kd.N_far (p := ⟨gb628, 0, none⟩) (Kd.N_far (p := ⟨gb627, 3, none⟩) (Kd.N_far (p := ⟨gb627, 2, none⟩) (Kd.N_far (p := ⟨gb627, 1, none⟩) (Kd.N_far (p := ⟨gb627, 0, none⟩) (Kd.N_mono (Kd.N_mono HO626.out (fun k_ hk => (⟨hk, hk.1.2⟩ : _ ∧ k_ ≠ gb627))) (fun k_ hk => (⟨hk, hk.1.2⟩ : _ ∧ k_ ≠ gb628))) (fun _ hk => hk.1.2) (.int .i64 t615)) (fun _ hk => hk.1.2) (.int .i64 t616)) (fun _ hk => hk.1.2) (.string t617)) (fun _ hk => hk.1.2) (.slice Ao90 t618.length co90)) (fun _ hk => hk.2) (.int .i64 t621)) (fun _ hk => hk.2) (.int .i64 t622)) (fun _ hk => hk.2) (.string t623)) (fun _ hk => hk.2) (.slice Ao96 t624.length co96)) (fun _ h_ => h_.1)) (fun _ h_ => h_.1)))) (by first | exact Kd.N_base ho0 | exact Kd.N_base (Kd.R_N ho0) | exact Kd.N_base (Kd.S_N ho0)) hb); have n5_ := Aside0.mk (Kd.N_lower (Kd.N_mono (ok' := fun k_ => some k_ ≠ (.slice Ao12 t578.length co12 : Value).ownBlock ∧ some k_ ≠ (.slice Ao15 t582.length co15 : Value).ownBlock ∧ some k_ ≠ (.slice Ao50 t596.length co50 : Value).ownBlock ∧ some k_ ≠ (.slice Ao90 t618.length co90 : Value).ownBlock ∧ some k_ ≠ (.slice Ao96 t624.length co96 : Value).ownBlock ∧ k_ ≠ gb576 ∧ k_ ≠ gb585 ∧ k_ ≠ gb586 ∧ k_ ≠ gb600 ∧ k_ ≠ gb627 ∧ k_ ≠ gb628) (Kd.S_N (Kd.S_bound ho0)) (fun k_ hk_ => ⟨(Kd.fresh' (Kd.N_lt (kN ((Kd.N_mono (Kd.N_mono (Kd.N_far (p := ⟨gb628, 3, none⟩) (Kd.N_far (p := ⟨gb628, 2, none⟩) (Kd.N_far (p := ⟨gb628, 1, none⟩) (Kd.N_far (p := ⟨gb628, 0, none⟩) (Kd.N_far (p := ⟨gb627, 3, none⟩) (Kd.N_far (p := ⟨gb627, 2, none⟩) (Kd.N_far (p := ⟨gb627, 1, none⟩) (Kd.N_far (p := ⟨gb627, 0, none⟩) (Kd.N_mono (Kd.N_mono HO_586001.out (fun k_ hk => (⟨hk, hk.1.2⟩ : _ ∧ k_ ≠ gb627))) (fun k_ hk => (⟨hk, hk.1.2⟩ : _ ∧ k_ ≠ gb628))) (fun _ hk => hk.1.2) (.int .i64 t615)) (fun _ hk => hk.1.2) (.int .i64 t616)) (fun _ hk => hk.1.2) (.string t617)) (fun _ hk => hk.1.2) (.slice Ao90 t618.length co90)) (fun _ hk => hk.2) (.int .i64 t621)) (fun _ hk => hk.2) (.int .i64 t622)) (fun _ hk => hk.2) (.string t623)) (fun _ hk => hk.2) (.slice Ao96 t624.length co96)) (fun _ h_ => h_.1)) (fun _ h_ => h_.1))))) k_ hk_.2.1), (Kd.fresh' (Kd.N_lt (kN ((Kd.N_mono (Kd.N_mono (Kd.N_far (p := ⟨gb628, 3, none⟩) (Kd.N_far (p := ⟨gb628, 2, none⟩) (Kd.N_far (p := ⟨gb628, 1, none⟩) (Kd.N_far (p := ⟨gb628, 0, none⟩) (Kd.N_far (p := ⟨gb627, 3, none⟩) (Kd.N_far (p := ⟨gb627, 2, none⟩) (Kd.N_far (p := ⟨gb627, 1, none⟩) (Kd.N_far (p := ⟨gb627, 0, none⟩) (Kd.N_mono (Kd.N_mono HO_587001.out (fun k_ hk => (⟨hk, hk.1.2⟩ : _ ∧ k_ ≠ gb627))) (fun k_ hk => (⟨hk, hk.1.2⟩ : _ ∧ k_ ≠ gb628))) (fun _ hk => hk.1.2) (.int .i64 t615)) (fun _ hk => hk.1.2) (.int .i64 t616)) (fun _ hk => hk.1.2) (.string t617)) (fun _ hk => hk.1.2) (.slice Ao90 t618.length co90)) (fun _ hk => hk.2) (.int .i64 t621)) (fun _ hk => hk.2) (.int .i64 t622)) (fun _ hk => hk.2) (.string t623)) (fun _ hk => hk.2) (.slice Ao96 t624.length co96)) (fun _ h_ => h_.1)) (fun _ h_ => h_.1))))) k_ hk_.2.1), (Kd.fresh' (Kd.N_lt (kN ((Kd.N_mono (Kd.N_mono (Kd.N_far (p := ⟨gb628, 3, none⟩) (Kd.N_far (p := ⟨gb628, 2, none⟩) (Kd.N_far (p := ⟨gb628, 1, none⟩) (Kd.N_far (p := ⟨gb628, 0, none⟩) (Kd.N_far (p := ⟨gb627, 3, none⟩) (Kd.N_far (p := ⟨gb627, 2, none⟩) (Kd.N_far (p := ⟨gb627, 1, none⟩) (Kd.N_far (p := ⟨gb627, 0, none⟩) (Kd.N_mono (Kd.N_mono HO_601001.out (fun k_ hk => (⟨hk, hk.1.2⟩ : _ ∧ k_ ≠ gb627))) (fun k_ hk => (⟨hk, hk.1.2⟩ : _ ∧ k_ ≠ gb628))) (fun _ hk => hk.1.2) (.int .i64 t615)) (fun _ hk => hk.1.2) (.int .i64 t616)) (fun _ hk => hk.1.2) (.string t617)) (fun _ hk => hk.1.2) (.slice Ao90 t618.length co90)) (fun _ hk => hk.2) (.int .i64 t621)) (fun _ hk => hk.2) (.int .i64 t622)) (fun _ hk => hk.2) (.string t623)) (fun _ hk => hk.2) (.slice Ao96 t624.length co96)) (fun _ h_ => h_.1)) (fun _ h_ => h_.1))))) k_ hk_.2.1), (Kd.fresh' (Kd.N_lt (kN ((Kd.N_mono (Kd.N_mono (Kd.N_far (p := ⟨gb628, 3, none⟩) (Kd.N_far (p := ⟨gb628, 2, none⟩) (Kd.N_far (p := ⟨gb628, 1, none⟩) (Kd.N_far (p := ⟨gb628, 0, none⟩) (Kd.N_far (p := ⟨gb627, 3, none⟩) (Kd.N_far (p := ⟨gb627, 2, none⟩) (Kd.N_far (p := ⟨gb627, 1, none⟩) (Kd.N_far (p := ⟨gb627, 0, none⟩) (Kd.N_mono (Kd.N_mono HO620.out (fun k_ hk => (⟨hk, hk.1.2⟩ : _ ∧ k_ ≠ gb627))) (fun k_ hk => (⟨hk, hk.1.2⟩ : _ ∧ k_ ≠ gb628))) (fun _ hk => hk.1.2) (.int .i64 t615)) (fun _ hk => hk.1.2) (.int .i64 t616)) (fun _ hk => hk.1.2) (.string t617)) (fun _ hk => hk.1.2) (.slice Ao90 t618.length co90)) (fun _ hk => hk.2) (.int .i64 t621)) (fun _ hk => hk.2) (.int .i64 t622)) (fun _ hk => hk.2) (.string t623)) (fun _ hk => hk.2) (.slice Ao96 t624.length co96)) (fun _ h_ => h_.1)) (fun _ h_ => h_.1))))) k_ hk_.2.1), (Kd.fresh' (Kd.N_lt (kN ((Kd.N_mono (Kd.N_mono (Kd.N_far (p := ⟨gb628, 3, none⟩) (Kd.N_far (p := ⟨gb628, 2, none⟩) (Kd.N_far (p := ⟨gb628, 1, none⟩) (Kd.N_far (p := ⟨gb628, 0, none⟩) (Kd.N_far (p := ⟨gb627, 3, none⟩) (Kd.N_far (p := ⟨gb627, 2, none⟩) (Kd.N_far (p := ⟨gb627, 1, none⟩) (Kd.N_far (p := ⟨gb627, 0, none⟩) (Kd.N_mono (Kd.N_mono HO626.out (fun k_ hk => (⟨hk, hk.1.2⟩ : _ ∧ k_ ≠ gb627))) (fun k_ hk => (⟨hk, hk.1.2⟩ : _ ∧ k_ ≠ gb628))) (fun _ hk => hk.1.2) (.int .i64 t615)) (fun _ hk => hk.1.2) (.int .i64 t616)) (fun _ hk => hk.1.2) (.string t617)) (fun _ hk => hk.1.2) (.slice Ao90 t618.length co90)) (fun _ hk => hk.2) (.int .i64 t621)) (fun _ hk => hk.2) (.int .i64 t622)) (fun _ hk => hk.2) (.string t623)) (fun _ hk => hk.2) (.slice Ao96 t624.length co96)) (fun _ h_ => h_.1)) (fun _ h_ => h_.1))))) k_ hk_.2.1), (Kd.freshB (rb (blk_far (rb (blk_far (rb (blk_far (rb (blk_far (rb (blk_far (rb (blk_far (rb (blk_far (rb (blk_far (rb BK576.out) NB576_627.out _)) NB576_627.out _)) NB576_627.out _)) NB576_627.out _)) NB576_628.out _)) NB576_628.out _)) NB576_628.out _)) NB576_628.out _)) k_ hk_.2.1), (Kd.freshB (rb (blk_far (rb (blk_far (rb (blk_far (rb (blk_far (rb (blk_far (rb (blk_far (rb (blk_far (rb (blk_far (rb BK585.out) NB585_627.out _)) NB585_627.out _)) NB585_627.out _)) NB585_627.out _)) NB585_628.out _)) NB585_628.out _)) NB585_628.out _)) NB585_628.out _)) k_ hk_.2.1), (Kd.freshB (rb (blk_far (rb (blk_far (rb (blk_far (rb (blk_far (rb (blk_far (rb (blk_far (rb (blk_far (rb (blk_far (rb BK586.out) NB586_627.out _)) NB586_627.out _)) NB586_627.out _)) NB586_627.out _)) NB586_628.out _)) NB586_628.out _)) NB586_628.out _)) NB586_628.out _)) k_ hk_.2.1), (Kd.freshB (rb (blk_far (rb (blk_far (rb (blk_far (rb (blk_far (rb (blk_far (rb (blk_far (rb (blk_far (rb (blk_far (rb BK600.out) NB600_627.out _)) NB600_627.out _)) NB600_627.out _)) NB600_627.out _)) NB600_628.out _)) NB600_628.out _)) NB600_628.out _)) NB600_628.out _)) k_ hk_.2.1), (Kd.freshB (rb (blk_far (rb (blk_far (rb (blk_far (rb (blk_far (rb (blk_put (cs := #[.int .i64 t615, .int .i64 t616, .string t617, .slice none 0 0]) (rb (blk_put (cs := #[.int .i64 t615, .int .i64 t616, .string (⟨#[]⟩ : ByteArray), .slice none 0 0]) (rb (blk_put (cs := #[.int .i64 t615, .int .i64 0, .string (⟨#[]⟩ : ByteArray), .slice none 0 0]) (rb (blk_put (cs := #[.int .i64 0, .int .i64 0, .string (⟨#[]⟩ : ByteArray), .slice none 0 0]) (rb BK627.out) 0 _ rfl)) 1 _ rfl)) 2 _ rfl)) 3 _ rfl)) NB627_628.out _)) NB627_628.out _)) NB627_628.out _)) NB627_628.out _)) k_ hk_.2.1), (Kd.freshB (rb (blk_put (cs := #[.int .i64 t621, .int .i64 t622, .string t623, .slice none 0 0]) (rb (blk_put (cs := #[.int .i64 t621, .int .i64 t622, .string (⟨#[]⟩ : ByteArray), .slice none 0 0]) (rb (blk_put (cs := #[.int .i64 t621, .int .i64 0, .string (⟨#[]⟩ : ByteArray), .slice none 0 0]) (rb (blk_put (cs := #[.int .i64 0, .int .i64 0, .string (⟨#[]⟩ : ByteArray), .slice none 0 0]) (rb (blk_far (rb (blk_far (rb (blk_far (rb (blk_far (rb BK628.out) NB628_627.out _)) NB628_627.out _)) NB628_627.out _)) NB628_627.out _)) 0 _ rfl)) 1 _ rfl)) 2 _ rfl)) 3 _ rfl)) k_ hk_.2.1)⟩)) (below_size bb)); have n6_ := Aside0.mk (blk_below (rb (blk_far (rb (blk_far (rb (blk_far (rb (blk_far (rb (blk_far (rb (blk_far (rb (blk_far (rb (blk_far (rb BK576.out) NB576_627.out _)) NB576_627.out _)) NB576_627.out _)) NB576_627.out _)) NB576_628.out _)) NB576_628.out _)) NB576_628.out _)) NB576_628.out _)) hb); have n7_ := Aside0.mk (blk_below (rb (blk_far (rb (blk_far (rb (blk_far (rb (blk_far (rb (blk_far (rb (blk_far (rb (blk_far (rb (blk_far (rb BK585.out) NB585_627.out _)) NB585_627.out _)) NB585_627.out _)) NB585_627.out _)) NB585_628.out _)) NB585_628.out _)) NB585_628.out _)) NB585_628.out _)) hb); have n8_ := Aside0.mk (blk_below (rb (blk_far (rb (blk_far (rb (blk_far (rb (blk_far (rb (blk_far (rb (blk_far (rb (blk_far (rb (blk_far (rb BK586.out) NB586_627.out _)) NB586_627.out _)) NB586_627.out _)) NB586_627.out _)) NB586_628.out _)) NB586_628.out _)) NB586_628.out _)) NB586_628.out _)) hb); have n9_ := Aside0.mk (blk_below (rb (blk_far (rb (blk_far (rb (blk_far (rb (blk_far (rb (blk_far (rb (blk_far (rb (blk_far (rb (blk_far (rb BK600.out) NB600_627.out _)) NB600_627.out _)) NB600_627.out _)) NB600_627.out _)) NB600_628.out _)) NB600_628.out _)) NB600_628.out _)) NB600_628.out _)) hb); have n10_ := Aside0.mk (blk_below (rb (blk_far (rb (blk_far (rb (blk_far (rb (blk_far (rb (blk_put (cs := #[.int .i64 t615, .int .i64 t616, .string t617, .slice none 0 0]) (rb (blk_put (cs := #[.int .i64 t615, .int .i64 t616, .string (⟨#[]⟩ : ByteArray), .slice none 0 0]) (rb (blk_put (cs := #[.int .i64 t615, .int .i64 0, .string (⟨#[]⟩ : ByteArray), .slice none 0 0]) (rb (blk_put (cs := #[.int .i64 0, .int .i64 0, .string (⟨#[]⟩ : ByteArray), .slice none 0 0]) (rb BK627.out) 0 _ rfl)) 1 _ rfl)) 2 _ rfl)) 3 _ rfl)) NB627_628.out _)) NB627_628.out _)) NB627_628.out _)) NB627_628.out _)) hb); have n11_ := Aside0.mk (blk_below (rb (blk_put (cs := #[.int .i64 t621, .int .i64 t622, .string t623, .slice none 0 0]) (rb (blk_put (cs := #[.int .i64 t621, .int .i64 t622, .string (⟨#[]⟩ : ByteArray), .slice none 0 0]) (rb (blk_put (cs := #[.int .i64 t621, .int .i64 0, .string (⟨#[]⟩ : ByteArray), .slice none 0 0]) (rb (blk_put (cs := #[.int .i64 0, .int .i64 0, .string (⟨#[]⟩ : ByteArray), .slice none 0 0]) (rb (blk_far (rb (blk_far (rb (blk_far (rb (blk_far (rb BK628.out) NB628_627.out _)) NB628_627.out _)) NB628_627.out _)) NB628_627.out _)) 0 _ rfl)) 1 _ rfl)) 2 _ rfl)) 3 _ rfl)) hb); have n12_ := Aside0.mk (below_step bb hb); clear HO_586001; clear HO_587001; clear HO_601001; clear HO620; clear HO626; clear BK576; clear BK585; clear BK586; clear BK600; clear BK627; clear BK628; clear HB; have HO_586001 := n0_; have HO_587001 := n1_; have HO_601001 := n2_; have HO620 := n3_; have HO626 := n4_; have HO632 := n5_; have BK576 := n6_; have BK585 := n7_; have BK586 := n8_; have BK600 := n9_; have BK627 := n10_; have BK628 := n11_; have HB := n12_; clear n0_ n1_ n2_ n3_ n4_ n5_ n6_ n7_ n8_ n9_ n10_ n11_ n12_; (try clear hb); (try clear hb2); (try clear hk); (try clear hi); (try clear ho0)) | ((with_reducible refine gate_dst (N := 14) rfl ?_); refine box_event ?hg (N := 14) ?hd (cs := #[.string (⟨#[]⟩ : ByteArray), .slice none 0 0]) (t := 27) ?hr ?_; (case hd => rfl); (case hg => rfl); (case hr => first | (go_simp; done) | (go_simp; rfl)); intro gb634 hg w98 hbox hb; have n0_ := Aside0.mk (Kd.N_below (Kd.N_elderB (kN HO_586001.out) gb634 (Nat.le_of_eq hg.symm)) hb); have n1_ := Aside0.mk (Kd.N_below (Kd.N_elderB (kN HO_587001.out) gb634 (Nat.le_of_eq hg.symm)) hb); have n2_ := Aside0.mk (Kd.N_below (Kd.N_elderB (kN HO_601001.out) gb634 (Nat.le_of_eq hg.symm)) hb); have n3_ := Aside0.mk (Kd.N_below (Kd.N_elderB (kN HO620.out) gb634 (Nat.le_of_eq hg.symm)) hb); have n4_ := Aside0.mk (Kd.N_below (Kd.N_elderB (kN HO626.out) gb634 (Nat.le_of_eq hg.symm)) hb); have n5_ := Aside0.mk (Kd.N_below (Kd.N_elderB (kN HO632.out) gb634 (Nat.le_of_eq hg.symm)) hb); have n6_ := Aside0.mk (blk_below (rb BK576.out) hb); have n7_ := Aside0.mk (blk_below (rb BK585.out) hb); have n8_ := Aside0.mk (blk_below (rb BK586.out) hb); have n9_ := Aside0.mk (blk_below (rb BK600.out) hb); have n10_ := Aside0.mk (blk_below (rb BK627.out) hb); have n11_ := Aside0.mk (blk_below (rb BK628.out) hb); have n12_ := Aside0.mk (below_step bb hb); have n13_ := Aside0.mk (hbox); have n14_ := Aside0.mk ((by rw [hg]; exact (below_size bb) : w.heap.size ≤ gb634)); have n15_ := Aside0.mk ((by rw [hg]; exact (below_size bb) : w.heap.size ≤ gb634)); have n16_ := Aside0.mk ((by rw [hg]; exact Nat.ne_of_lt (blk_lt (rb BK576.out)) : gb576 ≠ gb634)); have n17_ := Aside0.mk ((by rw [hg]; exact Nat.ne_of_gt (blk_lt (rb BK576.out)) : gb634 ≠ gb576)); have n18_ := Aside0.mk ((by rw [hg]; exact Nat.ne_of_lt (blk_lt (rb BK585.out)) : gb585 ≠ gb634)); have n19_ := Aside0.mk ((by rw [hg]; exact Nat.ne_of_gt (blk_lt (rb BK585.out)) : gb634 ≠ gb585)); have n20_ := Aside0.mk ((by rw [hg]; exact Nat.ne_of_lt (blk_lt (rb BK586.out)) : gb586 ≠ gb634)); have n21_ := Aside0.mk ((by rw [hg]; exact Nat.ne_of_gt (blk_lt (rb BK586.out)) : gb634 ≠ gb586)); have n22_ := Aside0.mk ((by rw [hg]; exact Nat.ne_of_lt (blk_lt (rb BK600.out)) : gb600 ≠ gb634)); have n23_ := Aside0.mk ((by rw [hg]; exact Nat.ne_of_gt (blk_lt (rb BK600.out)) : gb634 ≠ gb600)); have n24_ := Aside0.mk ((by rw [hg]; exact Nat.ne_of_lt (blk_lt (rb BK627.out)) : gb627 ≠ gb634)); have n25_ := Aside0.mk ((by rw [hg]; exact Nat.ne_of_gt (blk_lt (rb BK627.out)) : gb634 ≠ gb627)); have n26_ := Aside0.mk ((by rw [hg]; exact Nat.ne_of_lt (blk_lt (rb BK628.out)) : gb628 ≠ gb634)); have n27_ := Aside0.mk ((by rw [hg]; exact Nat.ne_of_gt (blk_lt (rb BK628.out)) : gb634 ≠ gb628)); clear HO_586001; clear HO_587001; clear HO_601001; clear HO620; clear HO626; clear HO632; clear BK576; clear BK585; clear BK586; clear BK600; clear BK627; clear BK628; clear HB; have HO_586001 := n0_; have HO_587001 := n1_; have HO_601001 := n2_; have HO620 := n3_; have HO626 := n4_; have HO632 := n5_; have BK576 := n6_; have BK585 := n7_; have BK586 := n8_; have BK600 := n9_; have BK627 := n10_; have BK628 := n11_; have HB := n12_; have BK634 := n13_; have GW634 := n14_; have GE634 := n15_; have NB576_634 := n16_; have NB634_576 := n17_; have NB585_634 := n18_; have NB634_585 := n19_; have NB586_634 := n20_; have NB634_586 := n21_; have NB600_634 := n22_; have NB634_600 := n23_; have NB627_634 := n24_; have NB634_627 := n25_; have NB628_634 := n26_; have NB634_628 := n27_; clear n0_ n1_ n2_ n3_ n4_ n5_ n6_ n7_ n8_ n9_ n10_ n11_ n12_ n13_ n14_ n15_ n16_ n17_ n18_ n19_ n20_ n21_ n22_ n23_ n24_ n25_ n26_ n27_; clear hb hbox hg; have hnb99 := NB634_576.out; have hnc99 := NB576_634.out; have hnb100 := NB634_585.out; have hnc100 := NB585_634.out; have hnb101 := NB634_586.out; have hnc101 := NB586_634.out; have hnb102 := NB634_600.out; have hnc102 := NB600_634.out; have hnb103 := NB634_627.out; have hnc103 := NB627_634.out; have hnb104 := NB634_628.out; have hnc104 := NB628_634.out; have hcz105_0 : w98.cell? ⟨gb634, 0, none⟩ = some (.string (⟨#[]⟩ : ByteArray)) := (blk_cell BK634.out 0).trans rfl; have hcz105_1 : w98.cell? ⟨gb634, 1, none⟩ = some (.slice none 0 0) := (blk_cell BK634.out 1).trans rfl; have hfz105_0 := blk_frozen BK634.out 0; have hfz105_1 := blk_frozen BK634.out 1; obtain ⟨Ao106, co106, eo106⟩ := Kd.N_slice HO632.out; subst eo106))
        have n0_ : Aside0 (Kd.N k48 48 ((w98.setCell ⟨gb634, 0, none⟩ (.string t629)).setCell ⟨gb634, 1, none⟩ (.slice Ao106 t630.length co106)) w.heap.size (fun k_ => some k_ ≠ (.slice Ao15 t582.length co15 : Value).ownBlock ∧ some k_ ≠ (.slice Ao50 t596.length co50 : Value).ownBlock ∧ some k_ ≠ (.slice Ao90 t618.length co90 : Value).ownBlock ∧ some k_ ≠ (.slice Ao96 t624.length co96 : Value).ownBlock ∧ some k_ ≠ (.slice Ao106 t630.length co106 : Value).ownBlock ∧ k_ ≠ gb576 ∧ k_ ≠ gb585 ∧ k_ ≠ gb586 ∧ k_ ≠ gb600 ∧ k_ ≠ gb627 ∧ k_ ≠ gb628 ∧ k_ ≠ gb634) (.slice Ao12 t578.length co12) t578) := ⟨kN (Kd.N_mono (Kd.N_far (p := ⟨gb634, 1, none⟩) (Kd.N_far (p := ⟨gb634, 0, none⟩) (Kd.N_mono HO_586001.out (fun k_ hk => (⟨hk, hk.2⟩ : _ ∧ k_ ≠ gb634))) (fun _ hk => hk.2) (.string t629)) (fun _ hk => hk.2) (.slice Ao106 t630.length co106)) (fun _ hk => ⟨hk.1.1.1.1.1.1.1.1, ⟨hk.1.1.1.1.1.1.1.2.1, ⟨hk.1.1.1.1.1.1.2, ⟨hk.1.1.1.1.1.2, ⟨hk.1.1.2, ⟨hk.1.1.1.1.1.1.1.2.2.1, ⟨hk.1.1.1.1.1.1.1.2.2.2.1, ⟨hk.1.1.1.1.1.1.1.2.2.2.2.1, ⟨hk.1.1.1.1.1.1.1.2.2.2.2.2, ⟨hk.1.1.1.1.2, ⟨hk.1.1.1.2, hk.1.2⟩⟩⟩⟩⟩⟩⟩⟩⟩⟩⟩))⟩
        have n1_ : Aside0 (Kd.N k125 125 ((w98.setCell ⟨gb634, 0, none⟩ (.string t629)).setCell ⟨gb634, 1, none⟩ (.slice Ao106 t630.length co106)) w.heap.size (fun k_ => some k_ ≠ (.slice Ao12 t578.length co12 : Value).ownBlock ∧ some k_ ≠ (.slice Ao50 t596.length co50 : Value).ownBlock ∧ some k_ ≠ (.slice Ao90 t618.length co90 : Value).ownBlock ∧ some k_ ≠ (.slice Ao96 t624.length co96 : Value).ownBlock ∧ some k_ ≠ (.slice Ao106 t630.length co106 : Value).ownBlock ∧ k_ ≠ gb576 ∧ k_ ≠ gb585 ∧ k_ ≠ gb586 ∧ k_ ≠ gb600 ∧ k_ ≠ gb627 ∧ k_ ≠ gb628 ∧ k_ ≠ gb634) (.slice Ao15 t582.length co15) t582) := ⟨kN (Kd.N_mono (Kd.N_far (p := ⟨gb634, 1, none⟩) (Kd.N_far (p := ⟨gb634, 0, none⟩) (Kd.N_mono HO_587001.out (fun k_ hk => (⟨hk, hk.2⟩ : _ ∧ k_ ≠ gb634))) (fun _ hk => hk.2) (.string t629)) (fun _ hk => hk.2) (.slice Ao106 t630.length co106)) (fun _ hk => ⟨hk.1.1.1.1.1.1.1.1, ⟨hk.1.1.1.1.1.1.1.2.1, ⟨hk.1.1.1.1.1.1.2, ⟨hk.1.1.1.1.1.2, ⟨hk.1.1.2, ⟨hk.1.1.1.1.1.1.1.2.2.1, ⟨hk.1.1.1.1.1.1.1.2.2.2.1, ⟨hk.1.1.1.1.1.1.1.2.2.2.2.1, ⟨hk.1.1.1.1.1.1.1.2.2.2.2.2, ⟨hk.1.1.1.1.2, ⟨hk.1.1.1.2, hk.1.2⟩⟩⟩⟩⟩⟩⟩⟩⟩⟩⟩))⟩
        have n2_ : Aside0 (Kd.N k48 48 ((w98.setCell ⟨gb634, 0, none⟩ (.string t629)).setCell ⟨gb634, 1, none⟩ (.slice Ao106 t630.length co106)) w.heap.size (fun k_ => some k_ ≠ (.slice Ao12 t578.length co12 : Value).ownBlock ∧ some k_ ≠ (.slice Ao15 t582.length co15 : Value).ownBlock ∧ some k_ ≠ (.slice Ao90 t618.length co90 : Value).ownBlock ∧ some k_ ≠ (.slice Ao96 t624.length co96 : Value).ownBlock ∧ some k_ ≠ (.slice Ao106 t630.length co106 : Value).ownBlock ∧ k_ ≠ gb576 ∧ k_ ≠ gb585 ∧ k_ ≠ gb586 ∧ k_ ≠ gb600 ∧ k_ ≠ gb627 ∧ k_ ≠ gb628 ∧ k_ ≠ gb634) (.slice Ao50 t596.length co50) t596) := ⟨kN (Kd.N_mono (Kd.N_far (p := ⟨gb634, 1, none⟩) (Kd.N_far (p := ⟨gb634, 0, none⟩) (Kd.N_mono HO_601001.out (fun k_ hk => (⟨hk, hk.2⟩ : _ ∧ k_ ≠ gb634))) (fun _ hk => hk.2) (.string t629)) (fun _ hk => hk.2) (.slice Ao106 t630.length co106)) (fun _ hk => ⟨hk.1.1.1.1.1.1.1.1, ⟨hk.1.1.1.1.1.1.1.2.1, ⟨hk.1.1.1.1.1.1.2, ⟨hk.1.1.1.1.1.2, ⟨hk.1.1.2, ⟨hk.1.1.1.1.1.1.1.2.2.1, ⟨hk.1.1.1.1.1.1.1.2.2.2.1, ⟨hk.1.1.1.1.1.1.1.2.2.2.2.1, ⟨hk.1.1.1.1.1.1.1.2.2.2.2.2, ⟨hk.1.1.1.1.2, ⟨hk.1.1.1.2, hk.1.2⟩⟩⟩⟩⟩⟩⟩⟩⟩⟩⟩))⟩
        have n3_ : Aside0 (Kd.N k54 54 ((w98.setCell ⟨gb634, 0, none⟩ (.string t629)).setCell ⟨gb634, 1, none⟩ (.slice Ao106 t630.length co106)) w.heap.size (fun k_ => some k_ ≠ (.slice Ao12 t578.length co12 : Value).ownBlock ∧ some k_ ≠ (.slice Ao15 t582.length co15 : Value).ownBlock ∧ some k_ ≠ (.slice Ao50 t596.length co50 : Value).ownBlock ∧ some k_ ≠ (.slice Ao96 t624.length co96 : Value).ownBlock ∧ some k_ ≠ (.slice Ao106 t630.length co106 : Value).ownBlock ∧ k_ ≠ gb576 ∧ k_ ≠ gb585 ∧ k_ ≠ gb586 ∧ k_ ≠ gb600 ∧ k_ ≠ gb627 ∧ k_ ≠ gb628 ∧ k_ ≠ gb634) (.slice Ao90 t618.length co90) t618) := ⟨kN (Kd.N_mono (Kd.N_far (p := ⟨gb634, 1, none⟩) (Kd.N_far (p := ⟨gb634, 0, none⟩) (Kd.N_mono HO620.out (fun k_ hk => (⟨hk, hk.2⟩ : _ ∧ k_ ≠ gb634))) (fun _ hk => hk.2) (.string t629)) (fun _ hk => hk.2) (.slice Ao106 t630.length co106)) (fun _ hk => ⟨hk.1.1.1.1.1.2.1, ⟨hk.1.1.1.1.1.2.2.1, ⟨hk.1.1.1.1.1.2.2.2.1, ⟨hk.1.1.1.1.1.1, ⟨hk.1.1.2, ⟨hk.1.1.1.1.1.2.2.2.2.1, ⟨hk.1.1.1.1.1.2.2.2.2.2.1, ⟨hk.1.1.1.1.1.2.2.2.2.2.2.1, ⟨hk.1.1.1.1.1.2.2.2.2.2.2.2, ⟨hk.1.1.1.1.2, ⟨hk.1.1.1.2, hk.1.2⟩⟩⟩⟩⟩⟩⟩⟩⟩⟩⟩))⟩
        have n4_ : Aside0 (Kd.N k57 57 ((w98.setCell ⟨gb634, 0, none⟩ (.string t629)).setCell ⟨gb634, 1, none⟩ (.slice Ao106 t630.length co106)) w.heap.size (fun k_ => some k_ ≠ (.slice Ao12 t578.length co12 : Value).ownBlock ∧ some k_ ≠ (.slice Ao15 t582.length co15 : Value).ownBlock ∧ some k_ ≠ (.slice Ao50 t596.length co50 : Value).ownBlock ∧ some k_ ≠ (.slice Ao90 t618.length co90 : Value).ownBlock ∧ some k_ ≠ (.slice Ao106 t630.length co106 : Value).ownBlock ∧ k_ ≠ gb576 ∧ k_ ≠ gb585 ∧ k_ ≠ gb586 ∧ k_ ≠ gb600 ∧ k_ ≠ gb627 ∧ k_ ≠ gb628 ∧ k_ ≠ gb634) (.slice Ao96 t624.length co96) t624) := ⟨kN (Kd.N_mono (Kd.N_far (p := ⟨gb634, 1, none⟩) (Kd.N_far (p := ⟨gb634, 0, none⟩) (Kd.N_mono HO626.out (fun k_ hk => (⟨hk, hk.2⟩ : _ ∧ k_ ≠ gb634))) (fun _ hk => hk.2) (.string t629)) (fun _ hk => hk.2) (.slice Ao106 t630.length co106)) (fun _ hk => ⟨hk.1.1.1.1.1.2.1, ⟨hk.1.1.1.1.1.2.2.1, ⟨hk.1.1.1.1.1.2.2.2.1, ⟨hk.1.1.1.1.1.1, ⟨hk.1.1.2, ⟨hk.1.1.1.1.1.2.2.2.2.1, ⟨hk.1.1.1.1.1.2.2.2.2.2.1, ⟨hk.1.1.1.1.1.2.2.2.2.2.2.1, ⟨hk.1.1.1.1.1.2.2.2.2.2.2.2, ⟨hk.1.1.1.1.2, ⟨hk.1.1.1.2, hk.1.2⟩⟩⟩⟩⟩⟩⟩⟩⟩⟩⟩))⟩
        have n5_ : Aside0 (Kd.N k48 48 ((w98.setCell ⟨gb634, 0, none⟩ (.string t629)).setCell ⟨gb634, 1, none⟩ (.slice Ao106 t630.length co106)) w.heap.size (fun k_ => some k_ ≠ (.slice Ao12 t578.length co12 : Value).ownBlock ∧ some k_ ≠ (.slice Ao15 t582.length co15 : Value).ownBlock ∧ some k_ ≠ (.slice Ao50 t596.length co50 : Value).ownBlock ∧ some k_ ≠ (.slice Ao90 t618.length co90 : Value).ownBlock ∧ some k_ ≠ (.slice Ao96 t624.length co96 : Value).ownBlock ∧ k_ ≠ gb576 ∧ k_ ≠ gb585 ∧ k_ ≠ gb586 ∧ k_ ≠ gb600 ∧ k_ ≠ gb627 ∧ k_ ≠ gb628 ∧ k_ ≠ gb634) (.slice Ao106 t630.length co106) t630) := ⟨kN (Kd.N_mono (Kd.N_far (p := ⟨gb634, 1, none⟩) (Kd.N_far (p := ⟨gb634, 0, none⟩) (Kd.N_mono HO632.out (fun k_ hk => (⟨hk, hk.2⟩ : _ ∧ k_ ≠ gb634))) (fun _ hk => hk.2) (.string t629)) (fun _ hk => hk.2) (.slice Ao106 t630.length co106)) (fun _ hk => ⟨hk.1.1.1, ⟨hk.1.1.2.1, ⟨hk.1.1.2.2.1, ⟨hk.1.1.2.2.2.1, ⟨hk.1.1.2.2.2.2.1, ⟨hk.1.1.2.2.2.2.2.1, ⟨hk.1.1.2.2.2.2.2.2.1, ⟨hk.1.1.2.2.2.2.2.2.2.1, ⟨hk.1.1.2.2.2.2.2.2.2.2.1, ⟨hk.1.1.2.2.2.2.2.2.2.2.2.1, ⟨hk.1.1.2.2.2.2.2.2.2.2.2.2, hk.1.2⟩⟩⟩⟩⟩⟩⟩⟩⟩⟩⟩))⟩
        have n6_ : Aside0 (((w98.setCell ⟨gb634, 0, none⟩ (.string t629)).setCell ⟨gb634, 1, none⟩ (.slice Ao106 t630.length co106)).heap[gb576]? = some (.cells #[.string a0_0, .slice A0_1 l0_1.length c0_1] 24 (0, 0))) := ⟨by (with_reducible repeat (first | refine blk_drewN ?_ _ | refine blk_drew ?_ | refine blk_alloc ?_ _)); refine blk_far ?_ NB576_634.out _; (with_reducible repeat (first | refine blk_drewN ?_ _ | refine blk_drew ?_ | refine blk_alloc ?_ _)); refine blk_far ?_ NB576_634.out _; (with_reducible repeat (first | refine blk_drewN ?_ _ | refine blk_drew ?_ | refine blk_alloc ?_ _)); exact BK576.out⟩
        have n7_ : Aside0 (((w98.setCell ⟨gb634, 0, none⟩ (.string t629)).setCell ⟨gb634, 1, none⟩ (.slice Ao106 t630.length co106)).heap[gb585]? = some (.cells #[.string t577, .slice Ao12 t578.length co12] 27 (0, 0))) := ⟨by (with_reducible repeat (first | refine blk_drewN ?_ _ | refine blk_drew ?_ | refine blk_alloc ?_ _)); refine blk_far ?_ NB585_634.out _; (with_reducible repeat (first | refine blk_drewN ?_ _ | refine blk_drew ?_ | refine blk_alloc ?_ _)); refine blk_far ?_ NB585_634.out _; (with_reducible repeat (first | refine blk_drewN ?_ _ | refine blk_drew ?_ | refine blk_alloc ?_ _)); exact BK585.out⟩
        have n8_ : Aside0 (((w98.setCell ⟨gb634, 0, none⟩ (.string t629)).setCell ⟨gb634, 1, none⟩ (.slice Ao106 t630.length co106)).heap[gb586]? = some (.cells #[.string t581, .slice Ao15 t582.length co15] 30 (0, 0))) := ⟨by (with_reducible repeat (first | refine blk_drewN ?_ _ | refine blk_drew ?_ | refine blk_alloc ?_ _)); refine blk_far ?_ NB586_634.out _; (with_reducible repeat (first | refine blk_drewN ?_ _ | refine blk_drew ?_ | refine blk_alloc ?_ _)); refine blk_far ?_ NB586_634.out _; (with_reducible repeat (first | refine blk_drewN ?_ _ | refine blk_drew ?_ | refine blk_alloc ?_ _)); exact BK586.out⟩
        have n9_ : Aside0 (((w98.setCell ⟨gb634, 0, none⟩ (.string t629)).setCell ⟨gb634, 1, none⟩ (.slice Ao106 t630.length co106)).heap[gb600]? = some (.cells #[.string t595, .slice Ao50 t596.length co50] 27 (0, 0))) := ⟨by (with_reducible repeat (first | refine blk_drewN ?_ _ | refine blk_drew ?_ | refine blk_alloc ?_ _)); refine blk_far ?_ NB600_634.out _; (with_reducible repeat (first | refine blk_drewN ?_ _ | refine blk_drew ?_ | refine blk_alloc ?_ _)); refine blk_far ?_ NB600_634.out _; (with_reducible repeat (first | refine blk_drewN ?_ _ | refine blk_drew ?_ | refine blk_alloc ?_ _)); exact BK600.out⟩
        have n10_ : Aside0 (((w98.setCell ⟨gb634, 0, none⟩ (.string t629)).setCell ⟨gb634, 1, none⟩ (.slice Ao106 t630.length co106)).heap[gb627]? = some (.cells #[.int .i64 t615, .int .i64 t616, .string t617, .slice Ao90 t618.length co90] 54 (0, 0))) := ⟨by (with_reducible repeat (first | refine blk_drewN ?_ _ | refine blk_drew ?_ | refine blk_alloc ?_ _)); refine blk_far ?_ NB627_634.out _; (with_reducible repeat (first | refine blk_drewN ?_ _ | refine blk_drew ?_ | refine blk_alloc ?_ _)); refine blk_far ?_ NB627_634.out _; (with_reducible repeat (first | refine blk_drewN ?_ _ | refine blk_drew ?_ | refine blk_alloc ?_ _)); exact BK627.out⟩
        have n11_ : Aside0 (((w98.setCell ⟨gb634, 0, none⟩ (.string t629)).setCell ⟨gb634, 1, none⟩ (.slice Ao106 t630.length co106)).heap[gb628]? = some (.cells #[.int .i64 t621, .int .i64 t622, .string t623, .slice Ao96 t624.length co96] 57 (0, 0))) := ⟨by (with_reducible repeat (first | refine blk_drewN ?_ _ | refine blk_drew ?_ | refine blk_alloc ?_ _)); refine blk_far ?_ NB628_634.out _; (with_reducible repeat (first | refine blk_drewN ?_ _ | refine blk_drew ?_ | refine blk_alloc ?_ _)); refine blk_far ?_ NB628_634.out _; (with_reducible repeat (first | refine blk_drewN ?_ _ | refine blk_drew ?_ | refine blk_alloc ?_ _)); exact BK628.out⟩
        have n12_ : Aside0 (((w98.setCell ⟨gb634, 0, none⟩ (.string t629)).setCell ⟨gb634, 1, none⟩ (.slice Ao106 t630.length co106)).heap[gb634]? = some (.cells #[.string t629, .slice Ao106 t630.length co106] 27 (0, 0))) := ⟨by (with_reducible repeat (first | refine blk_drewN ?_ _ | refine blk_drew ?_ | refine blk_alloc ?_ _)); refine blk_put (cs := #[.string t629, .slice none 0 0]) ?_ 1 _ rfl; (with_reducible repeat (first | refine blk_drewN ?_ _ | refine blk_drew ?_ | refine blk_alloc ?_ _)); refine blk_put (cs := #[.string (⟨#[]⟩ : ByteArray), .slice none 0 0]) ?_ 0 _ rfl; (with_reducible repeat (first | refine blk_drewN ?_ _ | refine blk_drew ?_ | refine blk_alloc ?_ _)); exact BK634.out⟩
        have n13_ : Aside0 (Below w.heap.size w ((w98.setCell ⟨gb634, 0, none⟩ (.string t629)).setCell ⟨gb634, 1, none⟩ (.slice Ao106 t630.length co106))) := ⟨bb⟩
        (try clear HO_586001)
        (try clear HO_587001)
        (try clear HO_601001)
        (try clear HO620)
        (try clear HO626)
        (try clear HO632)
        (try clear BK576)
        (try clear BK585)
        (try clear BK586)
        (try clear BK600)
        (try clear BK627)
        (try clear BK628)
        (try clear BK634)
        (try clear HB)
        generalize ((w98.setCell ⟨gb634, 0, none⟩ (.string t629)).setCell ⟨gb634, 1, none⟩ (.slice Ao106 t630.length co106)) = w107 at n0_ n1_ n2_ n3_ n4_ n5_ n6_ n7_ n8_ n9_ n10_ n11_ n12_ n13_ ⊢
        have HO_586001 := n0_
        have HO_587001 := n1_
        have HO_601001 := n2_
        have HO620 := n3_
        have HO626 := n4_
        have HO632 := n5_
        have BK576 := n6_
        have BK585 := n7_
        have BK586 := n8_
        have BK600 := n9_
        have BK627 := n10_
        have BK628 := n11_
        have BK634 := n12_
        have HB := n13_
        clear n0_ n1_ n2_ n3_ n4_ n5_ n6_ n7_ n8_ n9_ n10_ n11_ n12_ n13_
        have n0_ := Aside0.mk (Kd.N_drew HO_586001.out)
        have n1_ := Aside0.mk (Kd.N_drew HO_587001.out)
        have n2_ := Aside0.mk (Kd.N_drew HO_601001.out)
        have n3_ := Aside0.mk (Kd.N_drew HO620.out)
        have n4_ := Aside0.mk (Kd.N_drew HO626.out)
        have n5_ := Aside0.mk (Kd.N_drew HO632.out)
        have n6_ := Aside0.mk (blk_drew BK576.out)
        have n7_ := Aside0.mk (blk_drew BK585.out)
        have n8_ := Aside0.mk (blk_drew BK586.out)
        have n9_ := Aside0.mk (blk_drew BK600.out)
        have n10_ := Aside0.mk (blk_drew BK627.out)
        have n11_ := Aside0.mk (blk_drew BK628.out)
        have n12_ := Aside0.mk (blk_drew BK634.out)
        have n13_ := Aside0.mk (below_drew1 HB.out)
        clear HO_586001
        clear HO_587001
        clear HO_601001
        clear HO620
        clear HO626
        clear HO632
        clear BK576
        clear BK585
        clear BK586
        clear BK600
        clear BK627
        clear BK628
        clear BK634
        clear HB
        have HO_586001 := n0_
        have HO_587001 := n1_
        have HO_601001 := n2_
        have HO620 := n3_
        have HO626 := n4_
        have HO632 := n5_
        have BK576 := n6_
        have BK585 := n7_
        have BK586 := n8_
        have BK600 := n9_
        have BK627 := n10_
        have BK628 := n11_
        have BK634 := n12_
        have HB := n13_
        clear n0_ n1_ n2_ n3_ n4_ n5_ n6_ n7_ n8_ n9_ n10_ n11_ n12_ n13_
        refine start_ (n := 17) (S := fun w' => w'.cell? ⟨gb634, 0, none⟩ = some (.string t629) ∧ w'.cell? ⟨gb634, 1, none⟩ = some (.slice Ao106 t630.length co106) ∧ w'.cell? ⟨gb627, 0, none⟩ = some (.int .i64 t615) ∧ w'.cell? ⟨gb627, 1, none⟩ = some (.int .i64 t616) ∧ w'.cell? ⟨gb627, 2, none⟩ = some (.string t617) ∧ w'.cell? ⟨gb627, 3, none⟩ = some (.slice Ao90 t618.length co90)) (ds := []) #[false, false, false, false, false, false, false, false, false, false, false, false, false, false, false, false, false] (by kernel_rfl) rfl rfl ⟨(blk_cell BK634.out 0).trans rfl, (blk_cell BK634.out 1).trans rfl, (blk_cell BK627.out 0).trans rfl, (blk_cell BK627.out 1).trans rfl, (blk_cell BK627.out 2).trans rfl, (blk_cell BK627.out 3).trans rfl⟩ (fun hHeld => ?_); refine with_tabW precinctlaw12_GraphBack.tab13 precinctlaw12_GraphBack.bits13 (fun HT_ HW_ => ?_)
        generalize w107.drew = w108 at HO_586001 HO_587001 HO_601001 HO620 HO626 HO632 BK576 BK585 BK586 BK600 BK627 BK628 BK634 HB hHeld ⊢
        refine pure_ (i := 0) (N := some 83) (v := ?_) (a' := ?_) #[true, false, false, false, false, false, false, false, false, false, false, false, false, false, false, false, false] rfl rfl (any_of HT_.out (by kernel_rfl)) (fun _ _ _ h => h) (Or.inl ⟨by rfl, ?_⟩) ?_ ?_
        rotate_left
        ·intro w'
         go_simp
         with_reducible rfl
        rotate_left
        ·simp only [Act.put, List.setIfInBounds_toArray, List.set_cons_zero, List.set_cons_succ, i64_w, i32_w]
         rfl
        refine pure_ (i := 1) (N := some 84) (v := ?_) (a' := ?_) #[true, true, false, false, false, false, false, false, false, false, false, false, false, false, false, false, false] rfl rfl (any_of HT_.out (by kernel_rfl)) (fun _ _ _ h => h) (Or.inl ⟨by rfl, ?_⟩) ?_ ?_
        rotate_left
        ·intro w'
         go_simp
         with_reducible rfl
        rotate_left
        ·simp only [Act.put, List.setIfInBounds_toArray, List.set_cons_zero, List.set_cons_succ, i64_w, i32_w]
         rfl
        refine pure_ (i := 2) (N := some 85) (v := ?_) (a' := ?_) #[true, true, true, false, false, false, false, false, false, false, false, false, false, false, false, false, false] rfl rfl (any_of HT_.out (by kernel_rfl)) (fun _ _ _ h => h) (Or.inl ⟨by rfl, ?_⟩) ?_ ?_
        rotate_left
        ·intro w'
         go_simp
         with_reducible rfl
        rotate_left
        ·simp only [Act.put, List.setIfInBounds_toArray, List.set_cons_zero, List.set_cons_succ, i64_w, i32_w]
         rfl
        refine pure_ (i := 3) (N := some 86) (v := undef) (a' := ?_) #[true, true, true, true, false, false, false, false, false, false, false, false, false, false, false, false, false] rfl rfl (any_of HT_.out (by kernel_rfl)) (fun _ _ _ h => h) (Or.inr ⟨by rfl, rfl⟩) ?_ ?_
        rotate_left
        ·simp only [Act.put, List.setIfInBounds_toArray, List.set_cons_zero, List.set_cons_succ, i64_w, i32_w]
         rfl
        refine pure_ (i := 4) (N := some 87) (v := undef) (a' := ?_) #[true, true, true, true, true, false, false, false, false, false, false, false, false, false, false, false, false] rfl rfl (any_of HT_.out (by kernel_rfl)) (fun _ _ _ h => h) (Or.inr ⟨by rfl, rfl⟩) ?_ ?_
        rotate_left
        ·simp only [Act.put, List.setIfInBounds_toArray, List.set_cons_zero, List.set_cons_succ, i64_w, i32_w]
         rfl
        refine pure_ (i := 5) (N := some 88) (v := ?_) (a' := ?_) #[true, true, true, true, true, true, false, false, false, false, false, false, false, false, false, false, false] rfl rfl (any_of HT_.out (by kernel_rfl)) (fun _ _ _ h => h) (Or.inl ⟨by rfl, ?_⟩) ?_ ?_
        rotate_left
        ·intro w'
         go_simp
         with_reducible rfl
        rotate_left
        ·simp only [Act.put, List.setIfInBounds_toArray, List.set_cons_zero, List.set_cons_succ, i64_w, i32_w]
         rfl
        refine pure_ (i := 6) (N := some 89) (v := ?_) (a' := ?_) #[true, true, true, true, true, true, true, false, false, false, false, false, false, false, false, false, false] rfl rfl (any_of HT_.out (by kernel_rfl)) (fun _ _ _ h => h) (Or.inl ⟨by rfl, ?_⟩) ?_ ?_
        rotate_left
        ·intro w'
         go_simp
         with_reducible rfl
        rotate_left
        ·simp only [Act.put, List.setIfInBounds_toArray, List.set_cons_zero, List.set_cons_succ, i64_w, i32_w]
         rfl
        refine pure_ (i := 7) (N := some 90) (v := ?_) (a' := ?_) #[true, true, true, true, true, true, true, true, false, false, false, false, false, false, false, false, false] rfl rfl (any_of HT_.out (by kernel_rfl)) (fun _ _ _ h => h) (Or.inl ⟨by rfl, ?_⟩) ?_ ?_
        rotate_left
        ·intro w'
         go_simp
         with_reducible rfl
        rotate_left
        ·simp only [Act.put, List.setIfInBounds_toArray, List.set_cons_zero, List.set_cons_succ, i64_w, i32_w]
         rfl
        refine pure_ (i := 8) (N := some 91) (v := ?_) (a' := ?_) #[true, true, true, true, true, true, true, true, true, false, false, false, false, false, false, false, false] rfl rfl (any_of HT_.out (by kernel_rfl)) (fun _ _ _ h => h) (Or.inl ⟨by rfl, ?_⟩) ?_ ?_
        rotate_left
        ·intro w'
         go_simp
         with_reducible rfl
        rotate_left
        ·simp only [Act.put, List.setIfInBounds_toArray, List.set_cons_zero, List.set_cons_succ, i64_w, i32_w]
         rfl
        refine pure_ (i := 9) (N := some 92) (v := ?_) (a' := ?_) #[true, true, true, true, true, true, true, true, true, true, false, false, false, false, false, false, false] rfl rfl (any_of HT_.out (by kernel_rfl)) (fun _ _ _ h => h) (Or.inl ⟨by rfl, ?_⟩) ?_ ?_
        rotate_left
        ·intro w'
         go_simp
         with_reducible rfl
        rotate_left
        ·simp only [Act.put, List.setIfInBounds_toArray, List.set_cons_zero, List.set_cons_succ, i64_w, i32_w]
         rfl
        refine take_ (i := 10) (N := some 93) (v := ?_) (a' := ?_) #[true, true, true, true, true, true, true, true, true, true, true, false, false, false, false, false, false] rfl rfl (take_ofW HT_.out HW_.out (by kernel_rfl)) (fun _ _ _ h => h) (Or.inl ⟨by rfl, ?_⟩) hHeld ?_ ?_
        rotate_left
        ·rintro w' ⟨s0, s1, s2, s3, s4, s5⟩
         go_simp
         with_reducible rfl
        rotate_left
        ·simp only [Act.put, List.setIfInBounds_toArray, List.set_cons_zero, List.set_cons_succ, i64_w, i32_w]
         rfl
        refine take_ (i := 12) (N := some 95) (v := ?_) (a' := ?_) #[true, true, true, true, true, true, true, true, true, true, true, false, true, false, false, false, false] rfl rfl (take_ofW HT_.out HW_.out (by kernel_rfl)) (fun _ _ _ h => h) (Or.inl ⟨by rfl, ?_⟩) hHeld ?_ ?_
        rotate_left
        ·rintro w' ⟨s0, s1, s2, s3, s4, s5⟩
         go_simp
         with_reducible rfl
        rotate_left
        ·simp only [Act.put, List.setIfInBounds_toArray, List.set_cons_zero, List.set_cons_succ, i64_w, i32_w]
         rfl
        refine one_ (i := 11) (N := some 94) #[true, true, true, true, true, true, true, true, true, true, true, true, true, false, false, false, false] rfl rfl (one_of HT_.out (by kernel_rfl)) (by decide) (fun K hK => ?_)
        refine goes_ Try.func25 (by kernel_rfl) rfl #[.agg #[.string t629, .slice Ao106 t630.length co106]] (by rfl) rfl rfl ag ?_
        with_reducible refine (graph_Value.calls kj37 t629 _ _ t630 t635 t636 t637 t638 _ ?side1 ?side2 A79.out).mono ?_
        (case side1 => repeat (first | exact (Kd.N_reads' HO632.out).2.2 | (with_reducible refine Kd.C_alloc ?_ _) | (with_reducible refine Kd.C_drewN ?_ _) | (with_reducible refine Kd.C_drew ?_)))
        (case side2 => exact (Kd.N_reads' HO632.out).2.1)
        rintro e w109 ⟨v639, rfl, ho0, hb⟩
        refine ⟨_, rfl, ?_⟩
        have n0_ := Aside0.mk (Kd.N_elder' (kN HO_586001.out) (by first | exact Kd.N_base ho0 | exact Kd.N_base (Kd.R_N ho0) | exact Kd.N_base (Kd.S_N ho0)) hb)
        have n1_ := Aside0.mk (Kd.N_elder' (kN HO_587001.out) (by first | exact Kd.N_base ho0 | exact Kd.N_base (Kd.R_N ho0) | exact Kd.N_base (Kd.S_N ho0)) hb)
        have n2_ := Aside0.mk (Kd.N_elder' (kN HO_601001.out) (by first | exact Kd.N_base ho0 | exact Kd.N_base (Kd.R_N ho0) | exact Kd.N_base (Kd.S_N ho0)) hb)
        have n3_ := Aside0.mk (Kd.N_elder' (kN HO620.out) (by first | exact Kd.N_base ho0 | exact Kd.N_base (Kd.R_N ho0) | exact Kd.N_base (Kd.S_N ho0)) hb)
        have n4_ := Aside0.mk (Kd.N_elder' (kN HO626.out) (by first | exact Kd.N_base ho0 | exact Kd.N_base (Kd.R_N ho0) | exact Kd.N_base (Kd.S_N ho0)) hb)
        have n5_ := Aside0.mk (Kd.N_elder' (kN HO632.out) (by first | exact Kd.N_base ho0 | exact Kd.N_base (Kd.R_N ho0) | exact Kd.N_base (Kd.S_N ho0)) hb)
        have n6_ := Aside0.mk (Kd.N_lower (Kd.N_mono (ok' := fun k_ => some k_ ≠ (.slice Ao12 t578.length co12 : Value).ownBlock ∧ some k_ ≠ (.slice Ao15 t582.length co15 : Value).ownBlock ∧ some k_ ≠ (.slice Ao50 t596.length co50 : Value).ownBlock ∧ some k_ ≠ (.slice Ao90 t618.length co90 : Value).ownBlock ∧ some k_ ≠ (.slice Ao96 t624.length co96 : Value).ownBlock ∧ some k_ ≠ (.slice Ao106 t630.length co106 : Value).ownBlock ∧ k_ ≠ gb576 ∧ k_ ≠ gb585 ∧ k_ ≠ gb586 ∧ k_ ≠ gb600 ∧ k_ ≠ gb627 ∧ k_ ≠ gb628 ∧ k_ ≠ gb634) ho0 (fun k_ hk_ => ⟨(Kd.fresh' (Kd.N_lt (kN HO_586001.out)) k_ hk_), (Kd.fresh' (Kd.N_lt (kN HO_587001.out)) k_ hk_), (Kd.fresh' (Kd.N_lt (kN HO_601001.out)) k_ hk_), (Kd.fresh' (Kd.N_lt (kN HO620.out)) k_ hk_), (Kd.fresh' (Kd.N_lt (kN HO626.out)) k_ hk_), (Kd.fresh' (Kd.N_lt (kN HO632.out)) k_ hk_), (Kd.freshB (rb BK576.out) k_ hk_), (Kd.freshB (rb BK585.out) k_ hk_), (Kd.freshB (rb BK586.out) k_ hk_), (Kd.freshB (rb BK600.out) k_ hk_), (Kd.freshB (rb BK627.out) k_ hk_), (Kd.freshB (rb BK628.out) k_ hk_), (Kd.freshB (rb BK634.out) k_ hk_)⟩)) (below_size bb))
        have n7_ := Aside0.mk (blk_below (rb BK576.out) hb)
        have n8_ := Aside0.mk (blk_below (rb BK585.out) hb)
        have n9_ := Aside0.mk (blk_below (rb BK586.out) hb)
        have n10_ := Aside0.mk (blk_below (rb BK600.out) hb)
        have n11_ := Aside0.mk (blk_below (rb BK627.out) hb)
        have n12_ := Aside0.mk (blk_below (rb BK628.out) hb)
        have n13_ := Aside0.mk (blk_below (rb BK634.out) hb)
        have n14_ := Aside0.mk (below_step bb hb)
        clear HO_586001
        clear HO_587001
        clear HO_601001
        clear HO620
        clear HO626
        clear HO632
        clear BK576
        clear BK585
        clear BK586
        clear BK600
        clear BK627
        clear BK628
        clear BK634
        clear HB
        have HO_586001 := n0_
        have HO_587001 := n1_
        have HO_601001 := n2_
        have HO620 := n3_
        have HO626 := n4_
        have HO632 := n5_
        have HO640 := n6_
        have BK576 := n7_
        have BK585 := n8_
        have BK586 := n9_
        have BK600 := n10_
        have BK627 := n11_
        have BK628 := n12_
        have BK634 := n13_
        have HB := n14_
        clear n0_ n1_ n2_ n3_ n4_ n5_ n6_ n7_ n8_ n9_ n10_ n11_ n12_ n13_ n14_
        (try clear hb)
        (try clear hb2)
        (try clear hk)
        (try clear hi)
        (try clear ho0)
        obtain ⟨Ao110, co110, eo110⟩ := Kd.N_slice HO640.out
        (first | subst eo110 | (injection eo110 with f1_ f2_ f3_; have f4_ := f1_.symm; have f5_ := f3_.symm; clear f1_ f2_ f3_; subst f4_; subst f5_))
        refine hK.out _ _ ⟨(blk_cell BK634.out 0).trans rfl, (blk_cell BK634.out 1).trans rfl, (blk_cell BK627.out 0).trans rfl, (blk_cell BK627.out 1).trans rfl, (blk_cell BK627.out 2).trans rfl, (blk_cell BK627.out 3).trans rfl⟩ (fun hHeld => ?_)
        clear hK K
        refine norm_ (a' := ?_) ?_ ?_
        rotate_left
        ·show Act.put _ (some 94) _ = _
         simp only [Act.put, List.setIfInBounds_toArray, List.set_cons_zero, List.set_cons_succ, i64_w, i32_w]
         rfl
        refine one_ (i := 13) (N := some 96) #[true, true, true, true, true, true, true, true, true, true, true, true, true, true, false, false, false] rfl rfl (one_of HT_.out (by kernel_rfl)) (by decide) (fun K hK => ?_)
        refine goes_ Try.func27 (by kernel_rfl) rfl #[.agg #[.int .i64 t635, .int .i64 t636, .string t637, .slice Ao110 t638.length co110], .agg #[.int .i64 t615, .int .i64 t616, .string t617, .slice Ao90 t618.length co90]] (by rfl) rfl rfl ag ?_
        with_reducible refine (pack_Equal.calls t635 t636 t637 _ _ t638 t615 t616 t617 _ _ t618 t641 _ ?side1 ?side2 ?side3 ?side4 A80.out).mono ?_
        (case side1 => repeat (first | exact (Kd.N_reads' HO640.out).2.2 | (with_reducible refine Kd.C_alloc ?_ _) | (with_reducible refine Kd.C_drewN ?_ _) | (with_reducible refine Kd.C_drew ?_)))
        (case side2 => exact (Kd.N_reads' HO640.out).2.1)
        (case side3 => repeat (first | exact (Kd.N_reads' HO620.out).2.2 | (with_reducible refine Kd.C_alloc ?_ _) | (with_reducible refine Kd.C_drewN ?_ _) | (with_reducible refine Kd.C_drew ?_)))
        (case side4 => exact (Kd.N_reads' HO620.out).2.1)
        rintro e w111 ⟨rfl, hb⟩
        refine ⟨_, rfl, ?_⟩
        have n0_ := Aside0.mk (Kd.N_below (kN HO_586001.out) hb)
        have n1_ := Aside0.mk (Kd.N_below (kN HO_587001.out) hb)
        have n2_ := Aside0.mk (Kd.N_below (kN HO_601001.out) hb)
        have n3_ := Aside0.mk (Kd.N_below (kN HO620.out) hb)
        have n4_ := Aside0.mk (Kd.N_below (kN HO626.out) hb)
        have n5_ := Aside0.mk (Kd.N_below (kN HO632.out) hb)
        have n6_ := Aside0.mk (Kd.N_below (kN HO640.out) hb)
        have n7_ := Aside0.mk (blk_below (rb BK576.out) hb)
        have n8_ := Aside0.mk (blk_below (rb BK585.out) hb)
        have n9_ := Aside0.mk (blk_below (rb BK586.out) hb)
        have n10_ := Aside0.mk (blk_below (rb BK600.out) hb)
        have n11_ := Aside0.mk (blk_below (rb BK627.out) hb)
        have n12_ := Aside0.mk (blk_below (rb BK628.out) hb)
        have n13_ := Aside0.mk (blk_below (rb BK634.out) hb)
        have n14_ := Aside0.mk (below_step bb hb)
        clear HO_586001
        clear HO_587001
        clear HO_601001
        clear HO620
        clear HO626
        clear HO632
        clear HO640
        clear BK576
        clear BK585
        clear BK586
        clear BK600
        clear BK627
        clear BK628
        clear BK634
        clear HB
        have HO_586001 := n0_
        have HO_587001 := n1_
        have HO_601001 := n2_
        have HO620 := n3_
        have HO626 := n4_
        have HO632 := n5_
        have HO640 := n6_
        have BK576 := n7_
        have BK585 := n8_
        have BK586 := n9_
        have BK600 := n10_
        have BK627 := n11_
        have BK628 := n12_
        have BK634 := n13_
        have HB := n14_
        clear n0_ n1_ n2_ n3_ n4_ n5_ n6_ n7_ n8_ n9_ n10_ n11_ n12_ n13_ n14_
        (try clear hb)
        (try clear hb2)
        (try clear hk)
        (try clear hi)
        refine hK.out _ _ ⟨(blk_cell BK634.out 0).trans rfl, (blk_cell BK634.out 1).trans rfl, (blk_cell BK627.out 0).trans rfl, (blk_cell BK627.out 1).trans rfl, (blk_cell BK627.out 2).trans rfl, (blk_cell BK627.out 3).trans rfl⟩ (fun hHeld => ?_)
        clear hK K
        refine norm_ (a' := ?_) ?_ ?_
        rotate_left
        ·show Act.put _ (some 96) _ = _
         simp only [Act.put, List.setIfInBounds_toArray, List.set_cons_zero, List.set_cons_succ, i64_w, i32_w]
         rfl
        refine pure_ (i := 14) (N := some 97) (v := ?_) (a' := ?_) #[true, true, true, true, true, true, true, true, true, true, true, true, true, true, true, false, false] rfl rfl (any_of HT_.out (by kernel_rfl)) (fun _ _ _ h => h) (Or.inl ⟨by rfl, ?_⟩) ?_ ?_
        rotate_left
        ·intro w'
         go_simp
         with_reducible rfl
        rotate_left
        ·simp only [Act.put, List.setIfInBounds_toArray, List.set_cons_zero, List.set_cons_succ, i64_w, i32_w]
         rfl
        refine pure_ (i := 15) (N := some 98) (v := ?_) (a' := ?_) #[true, true, true, true, true, true, true, true, true, true, true, true, true, true, true, true, false] rfl rfl (any_of HT_.out (by kernel_rfl)) (fun _ _ _ h => h) (Or.inl ⟨by rfl, ?_⟩) ?_ ?_
        rotate_left
        ·intro w'
         go_simp
         with_reducible rfl
        rotate_left
        ·simp only [Act.put, List.setIfInBounds_toArray, List.set_cons_zero, List.set_cons_succ, i64_w, i32_w]
         rfl
        refine pure_ (i := 16) (N := some 4) (v := ?_) (a' := ?_) #[true, true, true, true, true, true, true, true, true, true, true, true, true, true, true, true, true] rfl rfl (any_of HT_.out (by kernel_rfl)) (fun _ _ _ h => h) (Or.inl ⟨by rfl, ?_⟩) ?_ ?_
        rotate_left
        ·intro w'
         go_simp
         with_reducible rfl
        rotate_left
        ·simp only [Act.put, List.setIfInBounds_toArray, List.set_cons_zero, List.set_cons_succ, i64_w, i32_w]
         rfl
        refine done_ (done_of HT_.out (by kernel_rfl)) ?_
        try go_wp2
        go_ret
        exact ⟨by first | rfl | (simp [errW_none, errW_some] <;> rfl) | (simp [*, errW_none, errW_some] <;> rfl), bb⟩
       ·rw [if_neg c78] at H
        have c78b0 : (t633 == 0) = false := beq_eq_false_iff_ne.mpr c78
        have c78b1 : (t633 != 0) = true := bne_iff_ne.mpr c78
        by_cases c112 : t633 = 4
        ·rw [if_pos c112] at H
         have c112b0 : (t633 == 4) = true := beq_iff_eq.mpr c112
         have c112b1 : (t633 != 4) = false := bne_eq_false_iff_eq.mpr c112
         clear c112
         obtain rfl := Option.some.inj H
         try go_wp2_with (first | ((with_reducible refine gate_callee (f := 21) rfl ?_); refine goesL_ (some 75) rfl rfl Try.func21 (by kernel_rfl) rfl #[.slice A1 l1.length c1] rfl ag ?_; (with_reducible refine (precinctlaw12_build.calls _ _ l1 t615 t616 t617 t618 t621 t622 t623 t624 _ ?side1 ?side2 A76.out).mono ?_); (case side1 => repeat (first | exact (Kd.C_below HR1.out HB.out) | (with_reducible refine Kd.C_alloc ?_ _) | (with_reducible refine Kd.C_drewN ?_ _) | (with_reducible refine Kd.C_drew ?_))); (case side2 => exact HC1.out); rintro e w113 ⟨v619, v625, rfl, ho0, ho1, hb⟩; refine ⟨_, rfl, ?_⟩; have n0_ := Aside0.mk (Kd.N_mono (Kd.N_told (Kd.N_told (Kd.N_old (kN HO_586001.out) hb) (by first | exact Kd.N_base ho0 | exact Kd.N_base (Kd.R_N ho0) | exact Kd.N_base (Kd.S_N ho0))) (by first | exact Kd.N_base ho1 | exact Kd.N_base (Kd.R_N ho1) | exact Kd.N_base (Kd.S_N ho1))) (fun _ h_ => h_.1)); have n1_ := Aside0.mk (Kd.N_mono (Kd.N_told (Kd.N_told (Kd.N_old (kN HO_587001.out) hb) (by first | exact Kd.N_base ho0 | exact Kd.N_base (Kd.R_N ho0) | exact Kd.N_base (Kd.S_N ho0))) (by first | exact Kd.N_base ho1 | exact Kd.N_base (Kd.R_N ho1) | exact Kd.N_base (Kd.S_N ho1))) (fun _ h_ => h_.1)); have n2_ := Aside0.mk (Kd.N_mono (Kd.N_told (Kd.N_told (Kd.N_old (kN HO_601001.out) hb) (by first | exact Kd.N_base ho0 | exact Kd.N_base (Kd.R_N ho0) | exact Kd.N_base (Kd.S_N ho0))) (by first | exact Kd.N_base ho1 | exact Kd.N_base (Kd.R_N ho1) | exact Kd.N_base (Kd.S_N ho1))) (fun _ h_ => h_.1)); have n3_ := Aside0.mk (Kd.N_lower (Kd.N_mono (ok' := fun k_ => some k_ ≠ (v625 : Value).ownBlock ∧ some k_ ≠ (.slice Ao12 t578.length co12 : Value).ownBlock ∧ some k_ ≠ (.slice Ao15 t582.length co15 : Value).ownBlock ∧ some k_ ≠ (.slice Ao50 t596.length co50 : Value).ownBlock ∧ k_ ≠ gb576 ∧ k_ ≠ gb585 ∧ k_ ≠ gb586 ∧ k_ ≠ gb600) (Kd.R_N (Kd.R_bound (Kd.R_apart' ho0 (Kd.R_typed ho1) (by decide)))) (fun k_ hk_ => ⟨hk_.1.2, (Kd.fresh' (Kd.N_lt (kN HO_586001.out)) k_ hk_.2.1), (Kd.fresh' (Kd.N_lt (kN HO_587001.out)) k_ hk_.2.1), (Kd.fresh' (Kd.N_lt (kN HO_601001.out)) k_ hk_.2.1), (Kd.freshB (rb BK576.out) k_ hk_.2.1), (Kd.freshB (rb BK585.out) k_ hk_.2.1), (Kd.freshB (rb BK586.out) k_ hk_.2.1), (Kd.freshB (rb BK600.out) k_ hk_.2.1)⟩)) (below_size bb)); have n4_ := Aside0.mk (Kd.N_lower (Kd.N_mono (ok' := fun k_ => some k_ ≠ (v619 : Value).ownBlock ∧ some k_ ≠ (.slice Ao12 t578.length co12 : Value).ownBlock ∧ some k_ ≠ (.slice Ao15 t582.length co15 : Value).ownBlock ∧ some k_ ≠ (.slice Ao50 t596.length co50 : Value).ownBlock ∧ k_ ≠ gb576 ∧ k_ ≠ gb585 ∧ k_ ≠ gb586 ∧ k_ ≠ gb600) (Kd.R_N (Kd.R_bound (Kd.R_apart' ho1 (Kd.R_typed ho0) (by decide)))) (fun k_ hk_ => ⟨hk_.1.2, (Kd.fresh' (Kd.N_lt (kN HO_586001.out)) k_ hk_.2.1), (Kd.fresh' (Kd.N_lt (kN HO_587001.out)) k_ hk_.2.1), (Kd.fresh' (Kd.N_lt (kN HO_601001.out)) k_ hk_.2.1), (Kd.freshB (rb BK576.out) k_ hk_.2.1), (Kd.freshB (rb BK585.out) k_ hk_.2.1), (Kd.freshB (rb BK586.out) k_ hk_.2.1), (Kd.freshB (rb BK600.out) k_ hk_.2.1)⟩)) (below_size bb)); have n5_ := Aside0.mk (blk_below (rb BK576.out) hb); have n6_ := Aside0.mk (blk_below (rb BK585.out) hb); have n7_ := Aside0.mk (blk_below (rb BK586.out) hb); have n8_ := Aside0.mk (blk_below (rb BK600.out) hb); have n9_ := Aside0.mk (below_step bb hb); clear HO_586001; clear HO_587001; clear HO_601001; clear BK576; clear BK585; clear BK586; clear BK600; clear HB; have HO_586001 := n0_; have HO_587001 := n1_; have HO_601001 := n2_; have HO620 := n3_; have HO626 := n4_; have BK576 := n5_; have BK585 := n6_; have BK586 := n7_; have BK600 := n8_; have HB := n9_; clear n0_ n1_ n2_ n3_ n4_ n5_ n6_ n7_ n8_ n9_; (try clear hb); (try clear hb2); (try clear hk); (try clear hi); (try clear ho0); (try clear ho1)) | ((with_reducible refine gate_dst (N := 12) rfl ?_); refine box_event ?hg (N := 12) ?hd (cs := #[.int .i64 0, .int .i64 0, .string (⟨#[]⟩ : ByteArray), .slice none 0 0]) (t := 54) ?hr ?_; (case hd => rfl); (case hg => rfl); (case hr => first | (go_simp; done) | (go_simp; rfl)); intro gb627 hg w114 hbox hb; have n0_ := Aside0.mk (Kd.N_below (Kd.N_elderB (kN HO_586001.out) gb627 (Nat.le_of_eq hg.symm)) hb); have n1_ := Aside0.mk (Kd.N_below (Kd.N_elderB (kN HO_587001.out) gb627 (Nat.le_of_eq hg.symm)) hb); have n2_ := Aside0.mk (Kd.N_below (Kd.N_elderB (kN HO_601001.out) gb627 (Nat.le_of_eq hg.symm)) hb); have n3_ := Aside0.mk (Kd.N_below (Kd.N_elderB (kN HO620.out) gb627 (Nat.le_of_eq hg.symm)) hb); have n4_ := Aside0.mk (Kd.N_below (Kd.N_elderB (kN HO626.out) gb627 (Nat.le_of_eq hg.symm)) hb); have n5_ := Aside0.mk (blk_below (rb BK576.out) hb); have n6_ := Aside0.mk (blk_below (rb BK585.out) hb); have n7_ := Aside0.mk (blk_below (rb BK586.out) hb); have n8_ := Aside0.mk (blk_below (rb BK600.out) hb); have n9_ := Aside0.mk (below_step bb hb); have n10_ := Aside0.mk (hbox); have n11_ := Aside0.mk ((by rw [hg]; exact (below_size bb) : w.heap.size ≤ gb627)); have n12_ := Aside0.mk ((by rw [hg]; exact (below_size bb) : w.heap.size ≤ gb627)); have n13_ := Aside0.mk ((by rw [hg]; exact Nat.ne_of_lt (blk_lt (rb BK576.out)) : gb576 ≠ gb627)); have n14_ := Aside0.mk ((by rw [hg]; exact Nat.ne_of_gt (blk_lt (rb BK576.out)) : gb627 ≠ gb576)); have n15_ := Aside0.mk ((by rw [hg]; exact Nat.ne_of_lt (blk_lt (rb BK585.out)) : gb585 ≠ gb627)); have n16_ := Aside0.mk ((by rw [hg]; exact Nat.ne_of_gt (blk_lt (rb BK585.out)) : gb627 ≠ gb585)); have n17_ := Aside0.mk ((by rw [hg]; exact Nat.ne_of_lt (blk_lt (rb BK586.out)) : gb586 ≠ gb627)); have n18_ := Aside0.mk ((by rw [hg]; exact Nat.ne_of_gt (blk_lt (rb BK586.out)) : gb627 ≠ gb586)); have n19_ := Aside0.mk ((by rw [hg]; exact Nat.ne_of_lt (blk_lt (rb BK600.out)) : gb600 ≠ gb627)); have n20_ := Aside0.mk ((by rw [hg]; exact Nat.ne_of_gt (blk_lt (rb BK600.out)) : gb627 ≠ gb600)); clear HO_586001; clear HO_587001; clear HO_601001; clear HO620; clear HO626; clear BK576; clear BK585; clear BK586; clear BK600; clear HB; have HO_586001 := n0_; have HO_587001 := n1_; have HO_601001 := n2_; have HO620 := n3_; have HO626 := n4_; have BK576 := n5_; have BK585 := n6_; have BK586 := n7_; have BK600 := n8_; have HB := n9_; have BK627 := n10_; have GW627 := n11_; have GE627 := n12_; have NB576_627 := n13_; have NB627_576 := n14_; have NB585_627 := n15_; have NB627_585 := n16_; have NB586_627 := n17_; have NB627_586 := n18_; have NB600_627 := n19_; have NB627_600 := n20_; clear n0_ n1_ n2_ n3_ n4_ n5_ n6_ n7_ n8_ n9_ n10_ n11_ n12_ n13_ n14_ n15_ n16_ n17_ n18_ n19_ n20_; clear hb hbox hg) | ((with_reducible refine gate_dst (N := 13) rfl ?_); refine box_event ?hg (N := 13) ?hd (cs := #[.int .i64 0, .int .i64 0, .string (⟨#[]⟩ : ByteArray), .slice none 0 0]) (t := 57) ?hr ?_; (case hd => rfl); (case hg => rfl); (case hr => first | (go_simp; done) | (go_simp; rfl)); intro gb628 hg w115 hbox hb; have n0_ := Aside0.mk (Kd.N_below (Kd.N_elderB (kN HO_586001.out) gb628 (Nat.le_of_eq hg.symm)) hb); have n1_ := Aside0.mk (Kd.N_below (Kd.N_elderB (kN HO_587001.out) gb628 (Nat.le_of_eq hg.symm)) hb); have n2_ := Aside0.mk (Kd.N_below (Kd.N_elderB (kN HO_601001.out) gb628 (Nat.le_of_eq hg.symm)) hb); have n3_ := Aside0.mk (Kd.N_below (Kd.N_elderB (kN HO620.out) gb628 (Nat.le_of_eq hg.symm)) hb); have n4_ := Aside0.mk (Kd.N_below (Kd.N_elderB (kN HO626.out) gb628 (Nat.le_of_eq hg.symm)) hb); have n5_ := Aside0.mk (blk_below (rb BK576.out) hb); have n6_ := Aside0.mk (blk_below (rb BK585.out) hb); have n7_ := Aside0.mk (blk_below (rb BK586.out) hb); have n8_ := Aside0.mk (blk_below (rb BK600.out) hb); have n9_ := Aside0.mk (blk_below (g := gb627) (o := .cells #[.int .i64 0, .int .i64 0, .string (⟨#[]⟩ : ByteArray), .slice none 0 0] 54 (0, 0)) (rb BK627.out) hb); have n10_ := Aside0.mk (below_step bb hb); have n11_ := Aside0.mk (hbox); have n12_ := Aside0.mk ((by rw [hg]; exact (below_size bb) : w.heap.size ≤ gb628)); have n13_ := Aside0.mk ((by rw [hg]; exact (below_size bb) : w.heap.size ≤ gb628)); have n14_ := Aside0.mk ((by rw [hg]; exact Nat.ne_of_lt (blk_lt (rb BK576.out)) : gb576 ≠ gb628)); have n15_ := Aside0.mk ((by rw [hg]; exact Nat.ne_of_gt (blk_lt (rb BK576.out)) : gb628 ≠ gb576)); have n16_ := Aside0.mk ((by rw [hg]; exact Nat.ne_of_lt (blk_lt (rb BK585.out)) : gb585 ≠ gb628)); have n17_ := Aside0.mk ((by rw [hg]; exact Nat.ne_of_gt (blk_lt (rb BK585.out)) : gb628 ≠ gb585)); have n18_ := Aside0.mk ((by rw [hg]; exact Nat.ne_of_lt (blk_lt (rb BK586.out)) : gb586 ≠ gb628)); have n19_ := Aside0.mk ((by rw [hg]; exact Nat.ne_of_gt (blk_lt (rb BK586.out)) : gb628 ≠ gb586)); have n20_ := Aside0.mk ((by rw [hg]; exact Nat.ne_of_lt (blk_lt (rb BK600.out)) : gb600 ≠ gb628)); have n21_ := Aside0.mk ((by rw [hg]; exact Nat.ne_of_gt (blk_lt (rb BK600.out)) : gb628 ≠ gb600)); have n22_ := Aside0.mk ((by rw [hg]; exact Nat.ne_of_lt (blk_lt (g := gb627) (o := .cells #[.int .i64 0, .int .i64 0, .string (⟨#[]⟩ : ByteArray), .slice none 0 0] 54 (0, 0)) (rb BK627.out)) : gb627 ≠ gb628)); have n23_ := Aside0.mk ((by rw [hg]; exact Nat.ne_of_gt (blk_lt (g := gb627) (o := .cells #[.int .i64 0, .int .i64 0, .string (⟨#[]⟩ : ByteArray), .slice none 0 0] 54 (0, 0)) (rb BK627.out)) : gb628 ≠ gb627)); clear HO_586001; clear HO_587001; clear HO_601001; clear HO620; clear HO626; clear BK576; clear BK585; clear BK586; clear BK600; clear BK627; clear HB; have HO_586001 := n0_; have HO_587001 := n1_; have HO_601001 := n2_; have HO620 := n3_; have HO626 := n4_; have BK576 := n5_; have BK585 := n6_; have BK586 := n7_; have BK600 := n8_; have BK627 := n9_; have HB := n10_; have BK628 := n11_; have GW628 := n12_; have GE628 := n13_; have NB576_628 := n14_; have NB628_576 := n15_; have NB585_628 := n16_; have NB628_585 := n17_; have NB586_628 := n18_; have NB628_586 := n19_; have NB600_628 := n20_; have NB628_600 := n21_; have NB627_628 := n22_; have NB628_627 := n23_; clear n0_ n1_ n2_ n3_ n4_ n5_ n6_ n7_ n8_ n9_ n10_ n11_ n12_ n13_ n14_ n15_ n16_ n17_ n18_ n19_ n20_ n21_ n22_ n23_; clear hb hbox hg; have hnb116 := NB627_576.out; have hnc116 := NB576_627.out; have hnb117 := NB627_585.out; have hnc117 := NB585_627.out; have hnb118 := NB627_586.out; have hnc118 := NB586_627.out; have hnb119 := NB627_600.out; have hnc119 := NB600_627.out; have hnb120 := NB627_628.out; have hnc120 := NB628_627.out; have hcz121_0 : w115.cell? ⟨gb627, 0, none⟩ = some (.int .i64 0) := (blk_cell BK627.out 0).trans rfl; have hcz121_1 : w115.cell? ⟨gb627, 1, none⟩ = some (.int .i64 0) := (blk_cell BK627.out 1).trans rfl; have hcz121_2 : w115.cell? ⟨gb627, 2, none⟩ = some (.string (⟨#[]⟩ : ByteArray)) := (blk_cell BK627.out 2).trans rfl; have hcz121_3 : w115.cell? ⟨gb627, 3, none⟩ = some (.slice none 0 0) := (blk_cell BK627.out 3).trans rfl; have hfz121_0 := blk_frozen BK627.out 0; have hfz121_1 := blk_frozen BK627.out 1; have hfz121_2 := blk_frozen BK627.out 2; have hfz121_3 := blk_frozen BK627.out 3; obtain ⟨Ao122, co122, eo122⟩ := Kd.N_slice HO620.out; subst eo122; have hnb123 := NB628_576.out; have hnc123 := NB576_628.out; have hnb124 := NB628_585.out; have hnc124 := NB585_628.out; have hnb125 := NB628_586.out; have hnc125 := NB586_628.out; have hnb126 := NB628_600.out; have hnc126 := NB600_628.out; have hcz127_0 : w115.cell? ⟨gb628, 0, none⟩ = some (.int .i64 0) := (blk_cell BK628.out 0).trans rfl; have hcz127_1 : w115.cell? ⟨gb628, 1, none⟩ = some (.int .i64 0) := (blk_cell BK628.out 1).trans rfl; have hcz127_2 : w115.cell? ⟨gb628, 2, none⟩ = some (.string (⟨#[]⟩ : ByteArray)) := (blk_cell BK628.out 2).trans rfl; have hcz127_3 : w115.cell? ⟨gb628, 3, none⟩ = some (.slice none 0 0) := (blk_cell BK628.out 3).trans rfl; have hfz127_0 := blk_frozen BK628.out 0; have hfz127_1 := blk_frozen BK628.out 1; have hfz127_2 := blk_frozen BK628.out 2; have hfz127_3 := blk_frozen BK628.out 3; obtain ⟨Ao128, co128, eo128⟩ := Kd.N_slice HO626.out; subst eo128) | ((with_reducible refine gate_callee (f := 22) rfl ?_); refine goesL_ (some 80) rfl rfl Try.func22 (by kernel_rfl) rfl #[.agg #[.int .i64 t615, .int .i64 t616, .string t617, .slice Ao122 t618.length co122]] rfl ag ?_; (with_reducible refine (graph_Read.calls kj37 t615 t616 t617 _ _ t618 t629 t630 t633 _ ?side1 ?side2 A77.out).mono ?_); (case side1 => refine (Kd.N_reads' (e := 54) (base := w.heap.size) (ok := fun k_ => (((some k_ ≠ (.slice Ao128 t624.length co128 : Value).ownBlock ∧ (some k_ ≠ (.slice Ao12 t578.length co12 : Value).ownBlock ∧ (some k_ ≠ (.slice Ao15 t582.length co15 : Value).ownBlock ∧ (some k_ ≠ (.slice Ao50 t596.length co50 : Value).ownBlock ∧ (k_ ≠ gb576 ∧ (k_ ≠ gb585 ∧ (k_ ≠ gb586 ∧ k_ ≠ gb600))))))) ∧ k_ ≠ gb627) ∧ k_ ≠ gb628)) (n := t618.length) (c := co122) ?_).2.2; exact (kN ((Kd.N_mono (Kd.N_mono (Kd.N_far (p := ⟨gb628, 3, none⟩) (Kd.N_far (p := ⟨gb628, 2, none⟩) (Kd.N_far (p := ⟨gb628, 1, none⟩) (Kd.N_far (p := ⟨gb628, 0, none⟩) (Kd.N_far (p := ⟨gb627, 3, none⟩) (Kd.N_far (p := ⟨gb627, 2, none⟩) (Kd.N_far (p := ⟨gb627, 1, none⟩) (Kd.N_far (p := ⟨gb627, 0, none⟩) (Kd.N_mono (Kd.N_mono HO620.out (fun k_ hk => (⟨hk, hk.1.2⟩ : _ ∧ k_ ≠ gb627))) (fun k_ hk => (⟨hk, hk.1.2⟩ : _ ∧ k_ ≠ gb628))) (fun _ hk => hk.1.2) (.int .i64 t615)) (fun _ hk => hk.1.2) (.int .i64 t616)) (fun _ hk => hk.1.2) (.string t617)) (fun _ hk => hk.1.2) (.slice Ao122 t618.length co122)) (fun _ hk => hk.2) (.int .i64 t621)) (fun _ hk => hk.2) (.int .i64 t622)) (fun _ hk => hk.2) (.string t623)) (fun _ hk => hk.2) (.slice Ao128 t624.length co128)) (fun _ h_ => h_.1)) (fun _ h_ => h_.1))))); (case side2 => exact (Kd.N_reads' HO620.out).2.1); rintro e w129 ⟨v631, rfl, ho0, hb⟩; refine ⟨_, rfl, ?_⟩; have n0_ := Aside0.mk (Kd.N_elder' (kN ((Kd.N_mono (Kd.N_mono (Kd.N_far (p := ⟨gb628, 3, none⟩) (Kd.N_far (p := ⟨gb628, 2, none⟩) (Kd.N_far (p := ⟨gb628, 1, none⟩) (Kd.N_far (p := ⟨gb628, 0, none⟩) (Kd.N_far (p := ⟨gb627, 3, none⟩) (Kd.N_far (p := ⟨gb627, 2, none⟩) (Kd.N_far (p := ⟨gb627, 1, none⟩) (Kd.N_far (p := ⟨gb627, 0, none⟩) (Kd.N_mono (Kd.N_mono HO_586001.out (fun k_ hk => (⟨hk, hk.1.2⟩ : _ ∧ k_ ≠ gb627))) (fun k_ hk => (⟨hk, hk.1.2⟩ : _ ∧ k_ ≠ gb628))) (fun _ hk => hk.1.2) (.int .i64 t615)) (fun _ hk => hk.1.2) (.int .i64 t616)) (fun _ hk => hk.1.2) (.string t617)) (fun _ hk => hk.1.2) (.slice Ao122 t618.length co122)) (fun _ hk => hk.2) (.int .i64 t621)) (fun _ hk => hk.2) (.int .i64 t622)) (fun _ hk => hk.2) (.string t623)) (fun _ hk => hk.2) (.slice Ao128 t624.length co128)) (fun _ h_ => h_.1)) (fun _ h_ => h_.1)))) (by first | exact Kd.N_base ho0 | exact Kd.N_base (Kd.R_N ho0) | exact Kd.N_base (Kd.S_N ho0)) hb); have n1_ := Aside0.mk (Kd.N_elder' (kN ((Kd.N_mono (Kd.N_mono (Kd.N_far (p := ⟨gb628, 3, none⟩) (Kd.N_far (p := ⟨gb628, 2, none⟩) (Kd.N_far (p := ⟨gb628, 1, none⟩) (Kd.N_far (p := ⟨gb628, 0, none⟩) (Kd.N_far (p := ⟨gb627, 3, none⟩) (Kd.N_far (p := ⟨gb627, 2, none⟩) (Kd.N_far (p := ⟨gb627, 1, none⟩) (Kd.N_far (p := ⟨gb627, 0, none⟩) (Kd.N_mono (Kd.N_mono HO_587001.out (fun k_ hk => (⟨hk, hk.1.2⟩ : _ ∧ k_ ≠ gb627))) (fun k_ hk => (⟨hk, hk.1.2⟩ : _ ∧ k_ ≠ gb628))) (fun _ hk => hk.1.2) (.int .i64 t615)) (fun _ hk => hk.1.2) (.int .i64 t616)) (fun _ hk => hk.1.2) (.string t617)) (fun _ hk => hk.1.2) (.slice Ao122 t618.length co122)) (fun _ hk => hk.2) (.int .i64 t621)) (fun _ hk => hk.2) (.int .i64 t622)) (fun _ hk => hk.2) (.string t623)) (fun _ hk => hk.2) (.slice Ao128 t624.length co128)) (fun _ h_ => h_.1)) (fun _ h_ => h_.1)))) (by first | exact Kd.N_base ho0 | exact Kd.N_base (Kd.R_N ho0) | exact Kd.N_base (Kd.S_N ho0)) hb); have n2_ := Aside0.mk (Kd.N_elder' (kN ((Kd.N_mono (Kd.N_mono (Kd.N_far (p := ⟨gb628, 3, none⟩) (Kd.N_far (p := ⟨gb628, 2, none⟩) (Kd.N_far (p := ⟨gb628, 1, none⟩) (Kd.N_far (p := ⟨gb628, 0, none⟩) (Kd.N_far (p := ⟨gb627, 3, none⟩) (Kd.N_far (p := ⟨gb627, 2, none⟩) (Kd.N_far (p := ⟨gb627, 1, none⟩) (Kd.N_far (p := ⟨gb627, 0, none⟩) (Kd.N_mono (Kd.N_mono HO_601001.out (fun k_ hk => (⟨hk, hk.1.2⟩ : _ ∧ k_ ≠ gb627))) (fun k_ hk => (⟨hk, hk.1.2⟩ : _ ∧ k_ ≠ gb628))) (fun _ hk => hk.1.2) (.int .i64 t615)) (fun _ hk => hk.1.2) (.int .i64 t616)) (fun _ hk => hk.1.2) (.string t617)) (fun _ hk => hk.1.2) (.slice Ao122 t618.length co122)) (fun _ hk => hk.2) (.int .i64 t621)) (fun _ hk => hk.2) (.int .i64 t622)) (fun _ hk => hk.2) (.string t623)) (fun _ hk => hk.2) (.slice Ao128 t624.length co128)) (fun _ h_ => h_.1)) (fun _ h_ => h_.1)))) (by first | exact Kd.N_base ho0 | exact Kd.N_base (Kd.R_N ho0) | exact Kd.N_base (Kd.S_N ho0)) hb); have n3_ := Aside0.mk (Kd.N_elder' (kN ((Kd.N_mono (Kd.N_mono (Kd.N_far (p := ⟨gb628, 3, none⟩) (Kd.N_far (p := ⟨gb628, 2, none⟩) (Kd.N_far (p := ⟨gb628, 1, none⟩) (Kd.N_far (p := ⟨gb628, 0, none⟩) (Kd.N_far (p := ⟨gb627, 3, none⟩) (Kd.N_far (p := ⟨gb627, 2, none⟩) (Kd.N_far (p := ⟨gb627, 1, none⟩) (Kd.N_far (p := ⟨gb627, 0, none⟩) (Kd.N_mono (Kd.N_mono HO620.out (fun k_ hk => (⟨hk, hk.1.2⟩ : _ ∧ k_ ≠ gb627))) (fun k_ hk => (⟨hk, hk.1.2⟩ : _ ∧ k_ ≠ gb628))) (fun _ hk => hk.1.2) (.int .i64 t615)) (fun _ hk => hk.1.2) (.int .i64 t616)) (fun _ hk => hk.1.2) (.string t617)) (fun _ hk => hk.1.2) (.slice Ao122 t618.length co122)) (fun _ hk => hk.2) (.int .i64 t621)) (fun _ hk => hk.2) (.int .i64 t622)) (fun _ hk => hk.2) (.string t623)) (fun _ hk => hk.2) (.slice Ao128 t624.length co128)) (fun _ h_ => h_.1)) (fun _ h_ => h_.1)))) (by first | exact Kd.N_base ho0 | exact Kd.N_base (Kd.R_N ho0) | exact Kd.N_base (Kd.S_N ho0)) hb); have n4_ := Aside0.mk (Kd.N_elder' (kN ((Kd.N_mono (Kd.N_mono (Kd.N_far (p := ⟨gb628, 3, none⟩) (Kd.N_far (p := ⟨gb628, 2, none⟩) (Kd.N_far (p := ⟨gb628, 1, none⟩) (Kd.N_far (p := ⟨gb628, 0, none⟩) (Kd.N_far (p := ⟨gb627, 3, none⟩) (Kd.N_far (p := ⟨gb627, 2, none⟩) (Kd.N_far (p := ⟨gb627, 1, none⟩) (Kd.N_far (p := ⟨gb627, 0, none⟩) (Kd.N_mono (Kd.N_mono HO626.out (fun k_ hk => (⟨hk, hk.1.2⟩ : _ ∧ k_ ≠ gb627))) (fun k_ hk => (⟨hk, hk.1.2⟩ : _ ∧ k_ ≠ gb628))) (fun _ hk => hk.1.2) (.int .i64 t615)) (fun _ hk => hk.1.2) (.int .i64 t616)) (fun _ hk => hk.1.2) (.string t617)) (fun _ hk => hk.1.2) (.slice Ao122 t618.length co122)) (fun _ hk => hk.2) (.int .i64 t621)) (fun _ hk => hk.2) (.int .i64 t622)) (fun _ hk => hk.2) (.string t623)) (fun _ hk => hk.2) (.slice Ao128 t624.length co128)) (fun _ h_ => h_.1)) (fun _ h_ => h_.1)))) (by first | exact Kd.N_base ho0 | exact Kd.N_base (Kd.R_N ho0) | exact Kd.N_base (Kd.S_N ho0)) hb); have n5_ := Aside0.mk (Kd.N_lower (Kd.N_mono (ok' := fun k_ => some k_ ≠ (.slice Ao12 t578.length co12 : Value).ownBlock ∧ some k_ ≠ (.slice Ao15 t582.length co15 : Value).ownBlock ∧ some k_ ≠ (.slice Ao50 t596.length co50 : Value).ownBlock ∧ some k_ ≠ (.slice Ao122 t618.length co122 : Value).ownBlock ∧ some k_ ≠ (.slice Ao128 t624.length co128 : Value).ownBlock ∧ k_ ≠ gb576 ∧ k_ ≠ gb585 ∧ k_ ≠ gb586 ∧ k_ ≠ gb600 ∧ k_ ≠ gb627 ∧ k_ ≠ gb628) (Kd.S_N (Kd.S_bound ho0)) (fun k_ hk_ => ⟨(Kd.fresh' (Kd.N_lt (kN ((Kd.N_mono (Kd.N_mono (Kd.N_far (p := ⟨gb628, 3, none⟩) (Kd.N_far (p := ⟨gb628, 2, none⟩) (Kd.N_far (p := ⟨gb628, 1, none⟩) (Kd.N_far (p := ⟨gb628, 0, none⟩) (Kd.N_far (p := ⟨gb627, 3, none⟩) (Kd.N_far (p := ⟨gb627, 2, none⟩) (Kd.N_far (p := ⟨gb627, 1, none⟩) (Kd.N_far (p := ⟨gb627, 0, none⟩) (Kd.N_mono (Kd.N_mono HO_586001.out (fun k_ hk => (⟨hk, hk.1.2⟩ : _ ∧ k_ ≠ gb627))) (fun k_ hk => (⟨hk, hk.1.2⟩ : _ ∧ k_ ≠ gb628))) (fun _ hk => hk.1.2) (.int .i64 t615)) (fun _ hk => hk.1.2) (.int .i64 t616)) (fun _ hk => hk.1.2) (.string t617)) (fun _ hk => hk.1.2) (.slice Ao122 t618.length co122)) (fun _ hk => hk.2) (.int .i64 t621)) (fun _ hk => hk.2) (.int .i64 t622)) (fun _ hk => hk.2) (.string t623)) (fun _ hk => hk.2) (.slice Ao128 t624.length co128)) (fun _ h_ => h_.1)) (fun _ h_ => h_.1))))) k_ hk_.2.1), (Kd.fresh' (Kd.N_lt (kN ((Kd.N_mono (Kd.N_mono (Kd.N_far (p := ⟨gb628, 3, none⟩) (Kd.N_far (p := ⟨gb628, 2, none⟩) (Kd.N_far (p := ⟨gb628, 1, none⟩) (Kd.N_far (p := ⟨gb628, 0, none⟩) (Kd.N_far (p := ⟨gb627, 3, none⟩) (Kd.N_far (p := ⟨gb627, 2, none⟩) (Kd.N_far (p := ⟨gb627, 1, none⟩) (Kd.N_far (p := ⟨gb627, 0, none⟩) (Kd.N_mono (Kd.N_mono HO_587001.out (fun k_ hk => (⟨hk, hk.1.2⟩ : _ ∧ k_ ≠ gb627))) (fun k_ hk => (⟨hk, hk.1.2⟩ : _ ∧ k_ ≠ gb628))) (fun _ hk => hk.1.2) (.int .i64 t615)) (fun _ hk => hk.1.2) (.int .i64 t616)) (fun _ hk => hk.1.2) (.string t617)) (fun _ hk => hk.1.2) (.slice Ao122 t618.length co122)) (fun _ hk => hk.2) (.int .i64 t621)) (fun _ hk => hk.2) (.int .i64 t622)) (fun _ hk => hk.2) (.string t623)) (fun _ hk => hk.2) (.slice Ao128 t624.length co128)) (fun _ h_ => h_.1)) (fun _ h_ => h_.1))))) k_ hk_.2.1), (Kd.fresh' (Kd.N_lt (kN ((Kd.N_mono (Kd.N_mono (Kd.N_far (p := ⟨gb628, 3, none⟩) (Kd.N_far (p := ⟨gb628, 2, none⟩) (Kd.N_far (p := ⟨gb628, 1, none⟩) (Kd.N_far (p := ⟨gb628, 0, none⟩) (Kd.N_far (p := ⟨gb627, 3, none⟩) (Kd.N_far (p := ⟨gb627, 2, none⟩) (Kd.N_far (p := ⟨gb627, 1, none⟩) (Kd.N_far (p := ⟨gb627, 0, none⟩) (Kd.N_mono (Kd.N_mono HO_601001.out (fun k_ hk => (⟨hk, hk.1.2⟩ : _ ∧ k_ ≠ gb627))) (fun k_ hk => (⟨hk, hk.1.2⟩ : _ ∧ k_ ≠ gb628))) (fun _ hk => hk.1.2) (.int .i64 t615)) (fun _ hk => hk.1.2) (.int .i64 t616)) (fun _ hk => hk.1.2) (.string t617)) (fun _ hk => hk.1.2) (.slice Ao122 t618.length co122)) (fun _ hk => hk.2) (.int .i64 t621)) (fun _ hk => hk.2) (.int .i64 t622)) (fun _ hk => hk.2) (.string t623)) (fun _ hk => hk.2) (.slice Ao128 t624.length co128)) (fun _ h_ => h_.1)) (fun _ h_ => h_.1))))) k_ hk_.2.1), (Kd.fresh' (Kd.N_lt (kN ((Kd.N_mono (Kd.N_mono (Kd.N_far (p := ⟨gb628, 3, none⟩) (Kd.N_far (p := ⟨gb628, 2, none⟩) (Kd.N_far (p := ⟨gb628, 1, none⟩) (Kd.N_far (p := ⟨gb628, 0, none⟩) (Kd.N_far (p := ⟨gb627, 3, none⟩) (Kd.N_far (p := ⟨gb627, 2, none⟩) (Kd.N_far (p := ⟨gb627, 1, none⟩) (Kd.N_far (p := ⟨gb627, 0, none⟩) (Kd.N_mono (Kd.N_mono HO620.out (fun k_ hk => (⟨hk, hk.1.2⟩ : _ ∧ k_ ≠ gb627))) (fun k_ hk => (⟨hk, hk.1.2⟩ : _ ∧ k_ ≠ gb628))) (fun _ hk => hk.1.2) (.int .i64 t615)) (fun _ hk => hk.1.2) (.int .i64 t616)) (fun _ hk => hk.1.2) (.string t617)) (fun _ hk => hk.1.2) (.slice Ao122 t618.length co122)) (fun _ hk => hk.2) (.int .i64 t621)) (fun _ hk => hk.2) (.int .i64 t622)) (fun _ hk => hk.2) (.string t623)) (fun _ hk => hk.2) (.slice Ao128 t624.length co128)) (fun _ h_ => h_.1)) (fun _ h_ => h_.1))))) k_ hk_.2.1), (Kd.fresh' (Kd.N_lt (kN ((Kd.N_mono (Kd.N_mono (Kd.N_far (p := ⟨gb628, 3, none⟩) (Kd.N_far (p := ⟨gb628, 2, none⟩) (Kd.N_far (p := ⟨gb628, 1, none⟩) (Kd.N_far (p := ⟨gb628, 0, none⟩) (Kd.N_far (p := ⟨gb627, 3, none⟩) (Kd.N_far (p := ⟨gb627, 2, none⟩) (Kd.N_far (p := ⟨gb627, 1, none⟩) (Kd.N_far (p := ⟨gb627, 0, none⟩) (Kd.N_mono (Kd.N_mono HO626.out (fun k_ hk => (⟨hk, hk.1.2⟩ : _ ∧ k_ ≠ gb627))) (fun k_ hk => (⟨hk, hk.1.2⟩ : _ ∧ k_ ≠ gb628))) (fun _ hk => hk.1.2) (.int .i64 t615)) (fun _ hk => hk.1.2) (.int .i64 t616)) (fun _ hk => hk.1.2) (.string t617)) (fun _ hk => hk.1.2) (.slice Ao122 t618.length co122)) (fun _ hk => hk.2) (.int .i64 t621)) (fun _ hk => hk.2) (.int .i64 t622)) (fun _ hk => hk.2) (.string t623)) (fun _ hk => hk.2) (.slice Ao128 t624.length co128)) (fun _ h_ => h_.1)) (fun _ h_ => h_.1))))) k_ hk_.2.1), (Kd.freshB (rb (blk_far (rb (blk_far (rb (blk_far (rb (blk_far (rb (blk_far (rb (blk_far (rb (blk_far (rb (blk_far (rb BK576.out) NB576_627.out _)) NB576_627.out _)) NB576_627.out _)) NB576_627.out _)) NB576_628.out _)) NB576_628.out _)) NB576_628.out _)) NB576_628.out _)) k_ hk_.2.1), (Kd.freshB (rb (blk_far (rb (blk_far (rb (blk_far (rb (blk_far (rb (blk_far (rb (blk_far (rb (blk_far (rb (blk_far (rb BK585.out) NB585_627.out _)) NB585_627.out _)) NB585_627.out _)) NB585_627.out _)) NB585_628.out _)) NB585_628.out _)) NB585_628.out _)) NB585_628.out _)) k_ hk_.2.1), (Kd.freshB (rb (blk_far (rb (blk_far (rb (blk_far (rb (blk_far (rb (blk_far (rb (blk_far (rb (blk_far (rb (blk_far (rb BK586.out) NB586_627.out _)) NB586_627.out _)) NB586_627.out _)) NB586_627.out _)) NB586_628.out _)) NB586_628.out _)) NB586_628.out _)) NB586_628.out _)) k_ hk_.2.1), (Kd.freshB (rb (blk_far (rb (blk_far (rb (blk_far (rb (blk_far (rb (blk_far (rb (blk_far (rb (blk_far (rb (blk_far (rb BK600.out) NB600_627.out _)) NB600_627.out _)) NB600_627.out _)) NB600_627.out _)) NB600_628.out _)) NB600_628.out _)) NB600_628.out _)) NB600_628.out _)) k_ hk_.2.1), (Kd.freshB (rb (blk_far (rb (blk_far (rb (blk_far (rb (blk_far (rb (blk_put (cs := #[.int .i64 t615, .int .i64 t616, .string t617, .slice none 0 0]) (rb (blk_put (cs := #[.int .i64 t615, .int .i64 t616, .string (⟨#[]⟩ : ByteArray), .slice none 0 0]) (rb (blk_put (cs := #[.int .i64 t615, .int .i64 0, .string (⟨#[]⟩ : ByteArray), .slice none 0 0]) (rb (blk_put (cs := #[.int .i64 0, .int .i64 0, .string (⟨#[]⟩ : ByteArray), .slice none 0 0]) (rb BK627.out) 0 _ rfl)) 1 _ rfl)) 2 _ rfl)) 3 _ rfl)) NB627_628.out _)) NB627_628.out _)) NB627_628.out _)) NB627_628.out _)) k_ hk_.2.1), (Kd.freshB (rb (blk_put (cs := #[.int .i64 t621, .int .i64 t622, .string t623, .slice none 0 0]) (rb (blk_put (cs := #[.int .i64 t621, .int .i64 t622, .string (⟨#[]⟩ : ByteArray), .slice none 0 0]) (rb (blk_put (cs := #[.int .i64 t621, .int .i64 0, .string (⟨#[]⟩ : ByteArray), .slice none 0 0]) (rb (blk_put (cs := #[.int .i64 0, .int .i64 0, .string (⟨#[]⟩ : ByteArray), .slice none 0 0]) (rb (blk_far (rb (blk_far (rb (blk_far (rb (blk_far (rb BK628.out) NB628_627.out _)) NB628_627.out _)) NB628_627.out _)) NB628_627.out _)) 0 _ rfl)) 1 _ rfl)) 2 _ rfl)) 3 _ rfl)) k_ hk_.2.1)⟩)) (below_size bb)); have n6_ := Aside0.mk (blk_below (rb (blk_far (rb (blk_far (rb (blk_far (rb (blk_far (rb (blk_far (rb (blk_far (rb (blk_far (rb (blk_far (rb BK576.out) NB576_627.out _)) NB576_627.out _)) NB576_627.out _)) NB576_627.out _)) NB576_628.out _)) NB576_628.out _)) NB576_628.out _)) NB576_628.out _)) hb); have n7_ := Aside0.mk (blk_below (rb (blk_far (rb (blk_far (rb (blk_far (rb (blk_far (rb (blk_far (rb (blk_far (rb (blk_far (rb (blk_far (rb BK585.out) NB585_627.out _)) NB585_627.out _)) NB585_627.out _)) NB585_627.out _)) NB585_628.out _)) NB585_628.out _)) NB585_628.out _)) NB585_628.out _)) hb); have n8_ := Aside0.mk (blk_below (rb (blk_far (rb (blk_far (rb (blk_far (rb (blk_far (rb (blk_far (rb (blk_far (rb (blk_far (rb (blk_far (rb BK586.out) NB586_627.out _)) NB586_627.out _)) NB586_627.out _)) NB586_627.out _)) NB586_628.out _)) NB586_628.out _)) NB586_628.out _)) NB586_628.out _)) hb); have n9_ := Aside0.mk (blk_below (rb (blk_far (rb (blk_far (rb (blk_far (rb (blk_far (rb (blk_far (rb (blk_far (rb (blk_far (rb (blk_far (rb BK600.out) NB600_627.out _)) NB600_627.out _)) NB600_627.out _)) NB600_627.out _)) NB600_628.out _)) NB600_628.out _)) NB600_628.out _)) NB600_628.out _)) hb); have n10_ := Aside0.mk (blk_below (rb (blk_far (rb (blk_far (rb (blk_far (rb (blk_far (rb (blk_put (cs := #[.int .i64 t615, .int .i64 t616, .string t617, .slice none 0 0]) (rb (blk_put (cs := #[.int .i64 t615, .int .i64 t616, .string (⟨#[]⟩ : ByteArray), .slice none 0 0]) (rb (blk_put (cs := #[.int .i64 t615, .int .i64 0, .string (⟨#[]⟩ : ByteArray), .slice none 0 0]) (rb (blk_put (cs := #[.int .i64 0, .int .i64 0, .string (⟨#[]⟩ : ByteArray), .slice none 0 0]) (rb BK627.out) 0 _ rfl)) 1 _ rfl)) 2 _ rfl)) 3 _ rfl)) NB627_628.out _)) NB627_628.out _)) NB627_628.out _)) NB627_628.out _)) hb); have n11_ := Aside0.mk (blk_below (rb (blk_put (cs := #[.int .i64 t621, .int .i64 t622, .string t623, .slice none 0 0]) (rb (blk_put (cs := #[.int .i64 t621, .int .i64 t622, .string (⟨#[]⟩ : ByteArray), .slice none 0 0]) (rb (blk_put (cs := #[.int .i64 t621, .int .i64 0, .string (⟨#[]⟩ : ByteArray), .slice none 0 0]) (rb (blk_put (cs := #[.int .i64 0, .int .i64 0, .string (⟨#[]⟩ : ByteArray), .slice none 0 0]) (rb (blk_far (rb (blk_far (rb (blk_far (rb (blk_far (rb BK628.out) NB628_627.out _)) NB628_627.out _)) NB628_627.out _)) NB628_627.out _)) 0 _ rfl)) 1 _ rfl)) 2 _ rfl)) 3 _ rfl)) hb); have n12_ := Aside0.mk (below_step bb hb); clear HO_586001; clear HO_587001; clear HO_601001; clear HO620; clear HO626; clear BK576; clear BK585; clear BK586; clear BK600; clear BK627; clear BK628; clear HB; have HO_586001 := n0_; have HO_587001 := n1_; have HO_601001 := n2_; have HO620 := n3_; have HO626 := n4_; have HO632 := n5_; have BK576 := n6_; have BK585 := n7_; have BK586 := n8_; have BK600 := n9_; have BK627 := n10_; have BK628 := n11_; have HB := n12_; clear n0_ n1_ n2_ n3_ n4_ n5_ n6_ n7_ n8_ n9_ n10_ n11_ n12_; (try clear hb); (try clear hb2); (try clear hk); (try clear hi); (try clear ho0)) | ((with_reducible refine gate_dst (N := 14) rfl ?_); refine box_event ?hg (N := 14) ?hd (cs := #[.string (⟨#[]⟩ : ByteArray), .slice none 0 0]) (t := 27) ?hr ?_; (case hd => rfl); (case hg => rfl); (case hr => first | (go_simp; done) | (go_simp; rfl)); intro gb634 hg w130 hbox hb; have n0_ := Aside0.mk (Kd.N_below (Kd.N_elderB (kN HO_586001.out) gb634 (Nat.le_of_eq hg.symm)) hb); have n1_ := Aside0.mk (Kd.N_below (Kd.N_elderB (kN HO_587001.out) gb634 (Nat.le_of_eq hg.symm)) hb); have n2_ := Aside0.mk (Kd.N_below (Kd.N_elderB (kN HO_601001.out) gb634 (Nat.le_of_eq hg.symm)) hb); have n3_ := Aside0.mk (Kd.N_below (Kd.N_elderB (kN HO620.out) gb634 (Nat.le_of_eq hg.symm)) hb); have n4_ := Aside0.mk (Kd.N_below (Kd.N_elderB (kN HO626.out) gb634 (Nat.le_of_eq hg.symm)) hb); have n5_ := Aside0.mk (Kd.N_below (Kd.N_elderB (kN HO632.out) gb634 (Nat.le_of_eq hg.symm)) hb); have n6_ := Aside0.mk (blk_below (rb BK576.out) hb); have n7_ := Aside0.mk (blk_below (rb BK585.out) hb); have n8_ := Aside0.mk (blk_below (rb BK586.out) hb); have n9_ := Aside0.mk (blk_below (rb BK600.out) hb); have n10_ := Aside0.mk (blk_below (rb BK627.out) hb); have n11_ := Aside0.mk (blk_below (rb BK628.out) hb); have n12_ := Aside0.mk (below_step bb hb); have n13_ := Aside0.mk (hbox); have n14_ := Aside0.mk ((by rw [hg]; exact (below_size bb) : w.heap.size ≤ gb634)); have n15_ := Aside0.mk ((by rw [hg]; exact (below_size bb) : w.heap.size ≤ gb634)); have n16_ := Aside0.mk ((by rw [hg]; exact Nat.ne_of_lt (blk_lt (rb BK576.out)) : gb576 ≠ gb634)); have n17_ := Aside0.mk ((by rw [hg]; exact Nat.ne_of_gt (blk_lt (rb BK576.out)) : gb634 ≠ gb576)); have n18_ := Aside0.mk ((by rw [hg]; exact Nat.ne_of_lt (blk_lt (rb BK585.out)) : gb585 ≠ gb634)); have n19_ := Aside0.mk ((by rw [hg]; exact Nat.ne_of_gt (blk_lt (rb BK585.out)) : gb634 ≠ gb585)); have n20_ := Aside0.mk ((by rw [hg]; exact Nat.ne_of_lt (blk_lt (rb BK586.out)) : gb586 ≠ gb634)); have n21_ := Aside0.mk ((by rw [hg]; exact Nat.ne_of_gt (blk_lt (rb BK586.out)) : gb634 ≠ gb586)); have n22_ := Aside0.mk ((by rw [hg]; exact Nat.ne_of_lt (blk_lt (rb BK600.out)) : gb600 ≠ gb634)); have n23_ := Aside0.mk ((by rw [hg]; exact Nat.ne_of_gt (blk_lt (rb BK600.out)) : gb634 ≠ gb600)); have n24_ := Aside0.mk ((by rw [hg]; exact Nat.ne_of_lt (blk_lt (rb BK627.out)) : gb627 ≠ gb634)); have n25_ := Aside0.mk ((by rw [hg]; exact Nat.ne_of_gt (blk_lt (rb BK627.out)) : gb634 ≠ gb627)); have n26_ := Aside0.mk ((by rw [hg]; exact Nat.ne_of_lt (blk_lt (rb BK628.out)) : gb628 ≠ gb634)); have n27_ := Aside0.mk ((by rw [hg]; exact Nat.ne_of_gt (blk_lt (rb BK628.out)) : gb634 ≠ gb628)); clear HO_586001; clear HO_587001; clear HO_601001; clear HO620; clear HO626; clear HO632; clear BK576; clear BK585; clear BK586; clear BK600; clear BK627; clear BK628; clear HB; have HO_586001 := n0_; have HO_587001 := n1_; have HO_601001 := n2_; have HO620 := n3_; have HO626 := n4_; have HO632 := n5_; have BK576 := n6_; have BK585 := n7_; have BK586 := n8_; have BK600 := n9_; have BK627 := n10_; have BK628 := n11_; have HB := n12_; have BK634 := n13_; have GW634 := n14_; have GE634 := n15_; have NB576_634 := n16_; have NB634_576 := n17_; have NB585_634 := n18_; have NB634_585 := n19_; have NB586_634 := n20_; have NB634_586 := n21_; have NB600_634 := n22_; have NB634_600 := n23_; have NB627_634 := n24_; have NB634_627 := n25_; have NB628_634 := n26_; have NB634_628 := n27_; clear n0_ n1_ n2_ n3_ n4_ n5_ n6_ n7_ n8_ n9_ n10_ n11_ n12_ n13_ n14_ n15_ n16_ n17_ n18_ n19_ n20_ n21_ n22_ n23_ n24_ n25_ n26_ n27_; clear hb hbox hg; have hnb131 := NB634_576.out; have hnc131 := NB576_634.out; have hnb132 := NB634_585.out; have hnc132 := NB585_634.out; have hnb133 := NB634_586.out; have hnc133 := NB586_634.out; have hnb134 := NB634_600.out; have hnc134 := NB600_634.out; have hnb135 := NB634_627.out; have hnc135 := NB627_634.out; have hnb136 := NB634_628.out; have hnc136 := NB628_634.out; have hcz137_0 : w130.cell? ⟨gb634, 0, none⟩ = some (.string (⟨#[]⟩ : ByteArray)) := (blk_cell BK634.out 0).trans rfl; have hcz137_1 : w130.cell? ⟨gb634, 1, none⟩ = some (.slice none 0 0) := (blk_cell BK634.out 1).trans rfl; have hfz137_0 := blk_frozen BK634.out 0; have hfz137_1 := blk_frozen BK634.out 1; obtain ⟨Ao138, co138, eo138⟩ := Kd.N_slice HO632.out; subst eo138))
         have n0_ : Aside0 (Kd.N k48 48 ((w130.setCell ⟨gb634, 0, none⟩ (.string t629)).setCell ⟨gb634, 1, none⟩ (.slice Ao138 t630.length co138)) w.heap.size (fun k_ => some k_ ≠ (.slice Ao15 t582.length co15 : Value).ownBlock ∧ some k_ ≠ (.slice Ao50 t596.length co50 : Value).ownBlock ∧ some k_ ≠ (.slice Ao122 t618.length co122 : Value).ownBlock ∧ some k_ ≠ (.slice Ao128 t624.length co128 : Value).ownBlock ∧ some k_ ≠ (.slice Ao138 t630.length co138 : Value).ownBlock ∧ k_ ≠ gb576 ∧ k_ ≠ gb585 ∧ k_ ≠ gb586 ∧ k_ ≠ gb600 ∧ k_ ≠ gb627 ∧ k_ ≠ gb628 ∧ k_ ≠ gb634) (.slice Ao12 t578.length co12) t578) := ⟨kN (Kd.N_mono (Kd.N_far (p := ⟨gb634, 1, none⟩) (Kd.N_far (p := ⟨gb634, 0, none⟩) (Kd.N_mono HO_586001.out (fun k_ hk => (⟨hk, hk.2⟩ : _ ∧ k_ ≠ gb634))) (fun _ hk => hk.2) (.string t629)) (fun _ hk => hk.2) (.slice Ao138 t630.length co138)) (fun _ hk => ⟨hk.1.1.1.1.1.1.1.1, ⟨hk.1.1.1.1.1.1.1.2.1, ⟨hk.1.1.1.1.1.1.2, ⟨hk.1.1.1.1.1.2, ⟨hk.1.1.2, ⟨hk.1.1.1.1.1.1.1.2.2.1, ⟨hk.1.1.1.1.1.1.1.2.2.2.1, ⟨hk.1.1.1.1.1.1.1.2.2.2.2.1, ⟨hk.1.1.1.1.1.1.1.2.2.2.2.2, ⟨hk.1.1.1.1.2, ⟨hk.1.1.1.2, hk.1.2⟩⟩⟩⟩⟩⟩⟩⟩⟩⟩⟩))⟩
         have n1_ : Aside0 (Kd.N k125 125 ((w130.setCell ⟨gb634, 0, none⟩ (.string t629)).setCell ⟨gb634, 1, none⟩ (.slice Ao138 t630.length co138)) w.heap.size (fun k_ => some k_ ≠ (.slice Ao12 t578.length co12 : Value).ownBlock ∧ some k_ ≠ (.slice Ao50 t596.length co50 : Value).ownBlock ∧ some k_ ≠ (.slice Ao122 t618.length co122 : Value).ownBlock ∧ some k_ ≠ (.slice Ao128 t624.length co128 : Value).ownBlock ∧ some k_ ≠ (.slice Ao138 t630.length co138 : Value).ownBlock ∧ k_ ≠ gb576 ∧ k_ ≠ gb585 ∧ k_ ≠ gb586 ∧ k_ ≠ gb600 ∧ k_ ≠ gb627 ∧ k_ ≠ gb628 ∧ k_ ≠ gb634) (.slice Ao15 t582.length co15) t582) := ⟨kN (Kd.N_mono (Kd.N_far (p := ⟨gb634, 1, none⟩) (Kd.N_far (p := ⟨gb634, 0, none⟩) (Kd.N_mono HO_587001.out (fun k_ hk => (⟨hk, hk.2⟩ : _ ∧ k_ ≠ gb634))) (fun _ hk => hk.2) (.string t629)) (fun _ hk => hk.2) (.slice Ao138 t630.length co138)) (fun _ hk => ⟨hk.1.1.1.1.1.1.1.1, ⟨hk.1.1.1.1.1.1.1.2.1, ⟨hk.1.1.1.1.1.1.2, ⟨hk.1.1.1.1.1.2, ⟨hk.1.1.2, ⟨hk.1.1.1.1.1.1.1.2.2.1, ⟨hk.1.1.1.1.1.1.1.2.2.2.1, ⟨hk.1.1.1.1.1.1.1.2.2.2.2.1, ⟨hk.1.1.1.1.1.1.1.2.2.2.2.2, ⟨hk.1.1.1.1.2, ⟨hk.1.1.1.2, hk.1.2⟩⟩⟩⟩⟩⟩⟩⟩⟩⟩⟩))⟩
         have n2_ : Aside0 (Kd.N k48 48 ((w130.setCell ⟨gb634, 0, none⟩ (.string t629)).setCell ⟨gb634, 1, none⟩ (.slice Ao138 t630.length co138)) w.heap.size (fun k_ => some k_ ≠ (.slice Ao12 t578.length co12 : Value).ownBlock ∧ some k_ ≠ (.slice Ao15 t582.length co15 : Value).ownBlock ∧ some k_ ≠ (.slice Ao122 t618.length co122 : Value).ownBlock ∧ some k_ ≠ (.slice Ao128 t624.length co128 : Value).ownBlock ∧ some k_ ≠ (.slice Ao138 t630.length co138 : Value).ownBlock ∧ k_ ≠ gb576 ∧ k_ ≠ gb585 ∧ k_ ≠ gb586 ∧ k_ ≠ gb600 ∧ k_ ≠ gb627 ∧ k_ ≠ gb628 ∧ k_ ≠ gb634) (.slice Ao50 t596.length co50) t596) := ⟨kN (Kd.N_mono (Kd.N_far (p := ⟨gb634, 1, none⟩) (Kd.N_far (p := ⟨gb634, 0, none⟩) (Kd.N_mono HO_601001.out (fun k_ hk => (⟨hk, hk.2⟩ : _ ∧ k_ ≠ gb634))) (fun _ hk => hk.2) (.string t629)) (fun _ hk => hk.2) (.slice Ao138 t630.length co138)) (fun _ hk => ⟨hk.1.1.1.1.1.1.1.1, ⟨hk.1.1.1.1.1.1.1.2.1, ⟨hk.1.1.1.1.1.1.2, ⟨hk.1.1.1.1.1.2, ⟨hk.1.1.2, ⟨hk.1.1.1.1.1.1.1.2.2.1, ⟨hk.1.1.1.1.1.1.1.2.2.2.1, ⟨hk.1.1.1.1.1.1.1.2.2.2.2.1, ⟨hk.1.1.1.1.1.1.1.2.2.2.2.2, ⟨hk.1.1.1.1.2, ⟨hk.1.1.1.2, hk.1.2⟩⟩⟩⟩⟩⟩⟩⟩⟩⟩⟩))⟩
         have n3_ : Aside0 (Kd.N k54 54 ((w130.setCell ⟨gb634, 0, none⟩ (.string t629)).setCell ⟨gb634, 1, none⟩ (.slice Ao138 t630.length co138)) w.heap.size (fun k_ => some k_ ≠ (.slice Ao12 t578.length co12 : Value).ownBlock ∧ some k_ ≠ (.slice Ao15 t582.length co15 : Value).ownBlock ∧ some k_ ≠ (.slice Ao50 t596.length co50 : Value).ownBlock ∧ some k_ ≠ (.slice Ao128 t624.length co128 : Value).ownBlock ∧ some k_ ≠ (.slice Ao138 t630.length co138 : Value).ownBlock ∧ k_ ≠ gb576 ∧ k_ ≠ gb585 ∧ k_ ≠ gb586 ∧ k_ ≠ gb600 ∧ k_ ≠ gb627 ∧ k_ ≠ gb628 ∧ k_ ≠ gb634) (.slice Ao122 t618.length co122) t618) := ⟨kN (Kd.N_mono (Kd.N_far (p := ⟨gb634, 1, none⟩) (Kd.N_far (p := ⟨gb634, 0, none⟩) (Kd.N_mono HO620.out (fun k_ hk => (⟨hk, hk.2⟩ : _ ∧ k_ ≠ gb634))) (fun _ hk => hk.2) (.string t629)) (fun _ hk => hk.2) (.slice Ao138 t630.length co138)) (fun _ hk => ⟨hk.1.1.1.1.1.2.1, ⟨hk.1.1.1.1.1.2.2.1, ⟨hk.1.1.1.1.1.2.2.2.1, ⟨hk.1.1.1.1.1.1, ⟨hk.1.1.2, ⟨hk.1.1.1.1.1.2.2.2.2.1, ⟨hk.1.1.1.1.1.2.2.2.2.2.1, ⟨hk.1.1.1.1.1.2.2.2.2.2.2.1, ⟨hk.1.1.1.1.1.2.2.2.2.2.2.2, ⟨hk.1.1.1.1.2, ⟨hk.1.1.1.2, hk.1.2⟩⟩⟩⟩⟩⟩⟩⟩⟩⟩⟩))⟩
         have n4_ : Aside0 (Kd.N k57 57 ((w130.setCell ⟨gb634, 0, none⟩ (.string t629)).setCell ⟨gb634, 1, none⟩ (.slice Ao138 t630.length co138)) w.heap.size (fun k_ => some k_ ≠ (.slice Ao12 t578.length co12 : Value).ownBlock ∧ some k_ ≠ (.slice Ao15 t582.length co15 : Value).ownBlock ∧ some k_ ≠ (.slice Ao50 t596.length co50 : Value).ownBlock ∧ some k_ ≠ (.slice Ao122 t618.length co122 : Value).ownBlock ∧ some k_ ≠ (.slice Ao138 t630.length co138 : Value).ownBlock ∧ k_ ≠ gb576 ∧ k_ ≠ gb585 ∧ k_ ≠ gb586 ∧ k_ ≠ gb600 ∧ k_ ≠ gb627 ∧ k_ ≠ gb628 ∧ k_ ≠ gb634) (.slice Ao128 t624.length co128) t624) := ⟨kN (Kd.N_mono (Kd.N_far (p := ⟨gb634, 1, none⟩) (Kd.N_far (p := ⟨gb634, 0, none⟩) (Kd.N_mono HO626.out (fun k_ hk => (⟨hk, hk.2⟩ : _ ∧ k_ ≠ gb634))) (fun _ hk => hk.2) (.string t629)) (fun _ hk => hk.2) (.slice Ao138 t630.length co138)) (fun _ hk => ⟨hk.1.1.1.1.1.2.1, ⟨hk.1.1.1.1.1.2.2.1, ⟨hk.1.1.1.1.1.2.2.2.1, ⟨hk.1.1.1.1.1.1, ⟨hk.1.1.2, ⟨hk.1.1.1.1.1.2.2.2.2.1, ⟨hk.1.1.1.1.1.2.2.2.2.2.1, ⟨hk.1.1.1.1.1.2.2.2.2.2.2.1, ⟨hk.1.1.1.1.1.2.2.2.2.2.2.2, ⟨hk.1.1.1.1.2, ⟨hk.1.1.1.2, hk.1.2⟩⟩⟩⟩⟩⟩⟩⟩⟩⟩⟩))⟩
         have n5_ : Aside0 (Kd.N k48 48 ((w130.setCell ⟨gb634, 0, none⟩ (.string t629)).setCell ⟨gb634, 1, none⟩ (.slice Ao138 t630.length co138)) w.heap.size (fun k_ => some k_ ≠ (.slice Ao12 t578.length co12 : Value).ownBlock ∧ some k_ ≠ (.slice Ao15 t582.length co15 : Value).ownBlock ∧ some k_ ≠ (.slice Ao50 t596.length co50 : Value).ownBlock ∧ some k_ ≠ (.slice Ao122 t618.length co122 : Value).ownBlock ∧ some k_ ≠ (.slice Ao128 t624.length co128 : Value).ownBlock ∧ k_ ≠ gb576 ∧ k_ ≠ gb585 ∧ k_ ≠ gb586 ∧ k_ ≠ gb600 ∧ k_ ≠ gb627 ∧ k_ ≠ gb628 ∧ k_ ≠ gb634) (.slice Ao138 t630.length co138) t630) := ⟨kN (Kd.N_mono (Kd.N_far (p := ⟨gb634, 1, none⟩) (Kd.N_far (p := ⟨gb634, 0, none⟩) (Kd.N_mono HO632.out (fun k_ hk => (⟨hk, hk.2⟩ : _ ∧ k_ ≠ gb634))) (fun _ hk => hk.2) (.string t629)) (fun _ hk => hk.2) (.slice Ao138 t630.length co138)) (fun _ hk => ⟨hk.1.1.1, ⟨hk.1.1.2.1, ⟨hk.1.1.2.2.1, ⟨hk.1.1.2.2.2.1, ⟨hk.1.1.2.2.2.2.1, ⟨hk.1.1.2.2.2.2.2.1, ⟨hk.1.1.2.2.2.2.2.2.1, ⟨hk.1.1.2.2.2.2.2.2.2.1, ⟨hk.1.1.2.2.2.2.2.2.2.2.1, ⟨hk.1.1.2.2.2.2.2.2.2.2.2.1, ⟨hk.1.1.2.2.2.2.2.2.2.2.2.2, hk.1.2⟩⟩⟩⟩⟩⟩⟩⟩⟩⟩⟩))⟩
         have n6_ : Aside0 (((w130.setCell ⟨gb634, 0, none⟩ (.string t629)).setCell ⟨gb634, 1, none⟩ (.slice Ao138 t630.length co138)).heap[gb576]? = some (.cells #[.string a0_0, .slice A0_1 l0_1.length c0_1] 24 (0, 0))) := ⟨by (with_reducible repeat (first | refine blk_drewN ?_ _ | refine blk_drew ?_ | refine blk_alloc ?_ _)); refine blk_far ?_ NB576_634.out _; (with_reducible repeat (first | refine blk_drewN ?_ _ | refine blk_drew ?_ | refine blk_alloc ?_ _)); refine blk_far ?_ NB576_634.out _; (with_reducible repeat (first | refine blk_drewN ?_ _ | refine blk_drew ?_ | refine blk_alloc ?_ _)); exact BK576.out⟩
         have n7_ : Aside0 (((w130.setCell ⟨gb634, 0, none⟩ (.string t629)).setCell ⟨gb634, 1, none⟩ (.slice Ao138 t630.length co138)).heap[gb585]? = some (.cells #[.string t577, .slice Ao12 t578.length co12] 27 (0, 0))) := ⟨by (with_reducible repeat (first | refine blk_drewN ?_ _ | refine blk_drew ?_ | refine blk_alloc ?_ _)); refine blk_far ?_ NB585_634.out _; (with_reducible repeat (first | refine blk_drewN ?_ _ | refine blk_drew ?_ | refine blk_alloc ?_ _)); refine blk_far ?_ NB585_634.out _; (with_reducible repeat (first | refine blk_drewN ?_ _ | refine blk_drew ?_ | refine blk_alloc ?_ _)); exact BK585.out⟩
         have n8_ : Aside0 (((w130.setCell ⟨gb634, 0, none⟩ (.string t629)).setCell ⟨gb634, 1, none⟩ (.slice Ao138 t630.length co138)).heap[gb586]? = some (.cells #[.string t581, .slice Ao15 t582.length co15] 30 (0, 0))) := ⟨by (with_reducible repeat (first | refine blk_drewN ?_ _ | refine blk_drew ?_ | refine blk_alloc ?_ _)); refine blk_far ?_ NB586_634.out _; (with_reducible repeat (first | refine blk_drewN ?_ _ | refine blk_drew ?_ | refine blk_alloc ?_ _)); refine blk_far ?_ NB586_634.out _; (with_reducible repeat (first | refine blk_drewN ?_ _ | refine blk_drew ?_ | refine blk_alloc ?_ _)); exact BK586.out⟩
         have n9_ : Aside0 (((w130.setCell ⟨gb634, 0, none⟩ (.string t629)).setCell ⟨gb634, 1, none⟩ (.slice Ao138 t630.length co138)).heap[gb600]? = some (.cells #[.string t595, .slice Ao50 t596.length co50] 27 (0, 0))) := ⟨by (with_reducible repeat (first | refine blk_drewN ?_ _ | refine blk_drew ?_ | refine blk_alloc ?_ _)); refine blk_far ?_ NB600_634.out _; (with_reducible repeat (first | refine blk_drewN ?_ _ | refine blk_drew ?_ | refine blk_alloc ?_ _)); refine blk_far ?_ NB600_634.out _; (with_reducible repeat (first | refine blk_drewN ?_ _ | refine blk_drew ?_ | refine blk_alloc ?_ _)); exact BK600.out⟩
         have n10_ : Aside0 (((w130.setCell ⟨gb634, 0, none⟩ (.string t629)).setCell ⟨gb634, 1, none⟩ (.slice Ao138 t630.length co138)).heap[gb627]? = some (.cells #[.int .i64 t615, .int .i64 t616, .string t617, .slice Ao122 t618.length co122] 54 (0, 0))) := ⟨by (with_reducible repeat (first | refine blk_drewN ?_ _ | refine blk_drew ?_ | refine blk_alloc ?_ _)); refine blk_far ?_ NB627_634.out _; (with_reducible repeat (first | refine blk_drewN ?_ _ | refine blk_drew ?_ | refine blk_alloc ?_ _)); refine blk_far ?_ NB627_634.out _; (with_reducible repeat (first | refine blk_drewN ?_ _ | refine blk_drew ?_ | refine blk_alloc ?_ _)); exact BK627.out⟩
         have n11_ : Aside0 (((w130.setCell ⟨gb634, 0, none⟩ (.string t629)).setCell ⟨gb634, 1, none⟩ (.slice Ao138 t630.length co138)).heap[gb628]? = some (.cells #[.int .i64 t621, .int .i64 t622, .string t623, .slice Ao128 t624.length co128] 57 (0, 0))) := ⟨by (with_reducible repeat (first | refine blk_drewN ?_ _ | refine blk_drew ?_ | refine blk_alloc ?_ _)); refine blk_far ?_ NB628_634.out _; (with_reducible repeat (first | refine blk_drewN ?_ _ | refine blk_drew ?_ | refine blk_alloc ?_ _)); refine blk_far ?_ NB628_634.out _; (with_reducible repeat (first | refine blk_drewN ?_ _ | refine blk_drew ?_ | refine blk_alloc ?_ _)); exact BK628.out⟩
         have n12_ : Aside0 (((w130.setCell ⟨gb634, 0, none⟩ (.string t629)).setCell ⟨gb634, 1, none⟩ (.slice Ao138 t630.length co138)).heap[gb634]? = some (.cells #[.string t629, .slice Ao138 t630.length co138] 27 (0, 0))) := ⟨by (with_reducible repeat (first | refine blk_drewN ?_ _ | refine blk_drew ?_ | refine blk_alloc ?_ _)); refine blk_put (cs := #[.string t629, .slice none 0 0]) ?_ 1 _ rfl; (with_reducible repeat (first | refine blk_drewN ?_ _ | refine blk_drew ?_ | refine blk_alloc ?_ _)); refine blk_put (cs := #[.string (⟨#[]⟩ : ByteArray), .slice none 0 0]) ?_ 0 _ rfl; (with_reducible repeat (first | refine blk_drewN ?_ _ | refine blk_drew ?_ | refine blk_alloc ?_ _)); exact BK634.out⟩
         have n13_ : Aside0 (Below w.heap.size w ((w130.setCell ⟨gb634, 0, none⟩ (.string t629)).setCell ⟨gb634, 1, none⟩ (.slice Ao138 t630.length co138))) := ⟨bb⟩
         (try clear HO_586001)
         (try clear HO_587001)
         (try clear HO_601001)
         (try clear HO620)
         (try clear HO626)
         (try clear HO632)
         (try clear BK576)
         (try clear BK585)
         (try clear BK586)
         (try clear BK600)
         (try clear BK627)
         (try clear BK628)
         (try clear BK634)
         (try clear HB)
         generalize ((w130.setCell ⟨gb634, 0, none⟩ (.string t629)).setCell ⟨gb634, 1, none⟩ (.slice Ao138 t630.length co138)) = w139 at n0_ n1_ n2_ n3_ n4_ n5_ n6_ n7_ n8_ n9_ n10_ n11_ n12_ n13_ ⊢
         have HO_586001 := n0_
         have HO_587001 := n1_
         have HO_601001 := n2_
         have HO620 := n3_
         have HO626 := n4_
         have HO632 := n5_
         have BK576 := n6_
         have BK585 := n7_
         have BK586 := n8_
         have BK600 := n9_
         have BK627 := n10_
         have BK628 := n11_
         have BK634 := n12_
         have HB := n13_
         clear n0_ n1_ n2_ n3_ n4_ n5_ n6_ n7_ n8_ n9_ n10_ n11_ n12_ n13_
         have n0_ := Aside0.mk (Kd.N_drew HO_586001.out)
         have n1_ := Aside0.mk (Kd.N_drew HO_587001.out)
         have n2_ := Aside0.mk (Kd.N_drew HO_601001.out)
         have n3_ := Aside0.mk (Kd.N_drew HO620.out)
         have n4_ := Aside0.mk (Kd.N_drew HO626.out)
         have n5_ := Aside0.mk (Kd.N_drew HO632.out)
         have n6_ := Aside0.mk (blk_drew BK576.out)
         have n7_ := Aside0.mk (blk_drew BK585.out)
         have n8_ := Aside0.mk (blk_drew BK586.out)
         have n9_ := Aside0.mk (blk_drew BK600.out)
         have n10_ := Aside0.mk (blk_drew BK627.out)
         have n11_ := Aside0.mk (blk_drew BK628.out)
         have n12_ := Aside0.mk (blk_drew BK634.out)
         have n13_ := Aside0.mk (below_drew1 HB.out)
         clear HO_586001
         clear HO_587001
         clear HO_601001
         clear HO620
         clear HO626
         clear HO632
         clear BK576
         clear BK585
         clear BK586
         clear BK600
         clear BK627
         clear BK628
         clear BK634
         clear HB
         have HO_586001 := n0_
         have HO_587001 := n1_
         have HO_601001 := n2_
         have HO620 := n3_
         have HO626 := n4_
         have HO632 := n5_
         have BK576 := n6_
         have BK585 := n7_
         have BK586 := n8_
         have BK600 := n9_
         have BK627 := n10_
         have BK628 := n11_
         have BK634 := n12_
         have HB := n13_
         clear n0_ n1_ n2_ n3_ n4_ n5_ n6_ n7_ n8_ n9_ n10_ n11_ n12_ n13_
         refine start_ (n := 17) (S := fun w' => True) (ds := []) #[false, false, false, false, false, false, false, false, false, false, false, false, false, false, false, false, false] (by kernel_rfl) rfl rfl trivial (fun hHeld => ?_); refine with_tabW precinctlaw12_GraphBack.tab13 precinctlaw12_GraphBack.bits13 (fun HT_ HW_ => ?_)
         generalize w139.drew = w140 at HO_586001 HO_587001 HO_601001 HO620 HO626 HO632 BK576 BK585 BK586 BK600 BK627 BK628 BK634 HB hHeld ⊢
         refine pure_ (i := 0) (N := some 83) (v := ?_) (a' := ?_) #[true, false, false, false, false, false, false, false, false, false, false, false, false, false, false, false, false] rfl rfl (any_of HT_.out (by kernel_rfl)) (fun _ _ _ h => h) (Or.inl ⟨by rfl, ?_⟩) ?_ ?_
         rotate_left
         ·intro w'
          go_simp
          with_reducible rfl
         rotate_left
         ·simp only [Act.put, List.setIfInBounds_toArray, List.set_cons_zero, List.set_cons_succ, i64_w, i32_w]
          rfl
         refine pure_ (i := 1) (N := some 84) (v := ?_) (a' := ?_) #[true, true, false, false, false, false, false, false, false, false, false, false, false, false, false, false, false] rfl rfl (any_of HT_.out (by kernel_rfl)) (fun _ _ _ h => h) (Or.inl ⟨by rfl, ?_⟩) ?_ ?_
         rotate_left
         ·intro w'
          go_simp
          with_reducible rfl
         rotate_left
         ·simp only [Act.put, List.setIfInBounds_toArray, List.set_cons_zero, List.set_cons_succ, i64_w, i32_w]
          rfl
         refine pure_ (i := 2) (N := some 85) (v := ?_) (a' := ?_) #[true, true, true, false, false, false, false, false, false, false, false, false, false, false, false, false, false] rfl rfl (any_of HT_.out (by kernel_rfl)) (fun _ _ _ h => h) (Or.inl ⟨by rfl, ?_⟩) ?_ ?_
         rotate_left
         ·intro w'
          go_simp
          with_reducible rfl
         rotate_left
         ·simp only [Act.put, List.setIfInBounds_toArray, List.set_cons_zero, List.set_cons_succ, i64_w, i32_w]
          rfl
         refine pure_ (i := 3) (N := some 86) (v := ?_) (a' := ?_) #[true, true, true, true, false, false, false, false, false, false, false, false, false, false, false, false, false] rfl rfl (any_of HT_.out (by kernel_rfl)) (fun _ _ _ h => h) (Or.inl ⟨by rfl, ?_⟩) ?_ ?_
         rotate_left
         ·intro w'
          go_simp
          with_reducible rfl
         rotate_left
         ·simp only [Act.put, List.setIfInBounds_toArray, List.set_cons_zero, List.set_cons_succ, i64_w, i32_w]
          rfl
         refine pure_ (i := 4) (N := some 87) (v := ?_) (a' := ?_) #[true, true, true, true, true, false, false, false, false, false, false, false, false, false, false, false, false] rfl rfl (any_of HT_.out (by kernel_rfl)) (fun _ _ _ h => h) (Or.inl ⟨by rfl, ?_⟩) ?_ ?_
         rotate_left
         ·intro w'
          go_simp
          with_reducible rfl
         rotate_left
         ·simp only [Act.put, List.setIfInBounds_toArray, List.set_cons_zero, List.set_cons_succ, i64_w, i32_w]
          rfl
         refine pure_ (i := 5) (N := some 88) (v := ?_) (a' := ?_) #[true, true, true, true, true, true, false, false, false, false, false, false, false, false, false, false, false] rfl rfl (any_of HT_.out (by kernel_rfl)) (fun _ _ _ h => h) (Or.inl ⟨by rfl, ?_⟩) ?_ ?_
         rotate_left
         ·intro w'
          go_simp
          with_reducible rfl
         rotate_left
         ·simp only [Act.put, List.setIfInBounds_toArray, List.set_cons_zero, List.set_cons_succ, i64_w, i32_w]
          rfl
         refine pure_ (i := 6) (N := some 89) (v := ?_) (a' := ?_) #[true, true, true, true, true, true, true, false, false, false, false, false, false, false, false, false, false] rfl rfl (any_of HT_.out (by kernel_rfl)) (fun _ _ _ h => h) (Or.inl ⟨by rfl, ?_⟩) ?_ ?_
         rotate_left
         ·intro w'
          go_simp
          with_reducible rfl
         rotate_left
         ·simp only [Act.put, List.setIfInBounds_toArray, List.set_cons_zero, List.set_cons_succ, i64_w, i32_w]
          rfl
         refine pure_ (i := 7) (N := some 90) (v := undef) (a' := ?_) #[true, true, true, true, true, true, true, true, false, false, false, false, false, false, false, false, false] rfl rfl (any_of HT_.out (by kernel_rfl)) (fun _ _ _ h => h) (Or.inr ⟨by rfl, rfl⟩) ?_ ?_
         rotate_left
         ·simp only [Act.put, List.setIfInBounds_toArray, List.set_cons_zero, List.set_cons_succ, i64_w, i32_w]
          rfl
         refine pure_ (i := 8) (N := some 91) (v := undef) (a' := ?_) #[true, true, true, true, true, true, true, true, true, false, false, false, false, false, false, false, false] rfl rfl (any_of HT_.out (by kernel_rfl)) (fun _ _ _ h => h) (Or.inr ⟨by rfl, rfl⟩) ?_ ?_
         rotate_left
         ·simp only [Act.put, List.setIfInBounds_toArray, List.set_cons_zero, List.set_cons_succ, i64_w, i32_w]
          rfl
         refine pure_ (i := 9) (N := some 92) (v := undef) (a' := ?_) #[true, true, true, true, true, true, true, true, true, true, false, false, false, false, false, false, false] rfl rfl (any_of HT_.out (by kernel_rfl)) (fun _ _ _ h => h) (Or.inr ⟨by rfl, rfl⟩) ?_ ?_
         rotate_left
         ·simp only [Act.put, List.setIfInBounds_toArray, List.set_cons_zero, List.set_cons_succ, i64_w, i32_w]
          rfl
         refine pure_ (i := 10) (N := some 93) (v := undef) (a' := ?_) #[true, true, true, true, true, true, true, true, true, true, true, false, false, false, false, false, false] rfl rfl (any_of HT_.out (by kernel_rfl)) (fun _ _ _ h => h) (Or.inr ⟨by rfl, rfl⟩) ?_ ?_
         rotate_left
         ·simp only [Act.put, List.setIfInBounds_toArray, List.set_cons_zero, List.set_cons_succ, i64_w, i32_w]
          rfl
         refine pure_ (i := 11) (N := some 94) (v := undef) (a' := ?_) #[true, true, true, true, true, true, true, true, true, true, true, true, false, false, false, false, false] rfl rfl (any_of HT_.out (by kernel_rfl)) (fun _ _ _ h => h) (Or.inr ⟨by rfl, rfl⟩) ?_ ?_
         rotate_left
         ·simp only [Act.put, List.setIfInBounds_toArray, List.set_cons_zero, List.set_cons_succ, i64_w, i32_w]
          rfl
         refine pure_ (i := 12) (N := some 95) (v := undef) (a' := ?_) #[true, true, true, true, true, true, true, true, true, true, true, true, true, false, false, false, false] rfl rfl (any_of HT_.out (by kernel_rfl)) (fun _ _ _ h => h) (Or.inr ⟨by rfl, rfl⟩) ?_ ?_
         rotate_left
         ·simp only [Act.put, List.setIfInBounds_toArray, List.set_cons_zero, List.set_cons_succ, i64_w, i32_w]
          rfl
         refine pure_ (i := 13) (N := some 96) (v := undef) (a' := ?_) #[true, true, true, true, true, true, true, true, true, true, true, true, true, true, false, false, false] rfl rfl (any_of HT_.out (by kernel_rfl)) (fun _ _ _ h => h) (Or.inr ⟨by rfl, rfl⟩) ?_ ?_
         rotate_left
         ·simp only [Act.put, List.setIfInBounds_toArray, List.set_cons_zero, List.set_cons_succ, i64_w, i32_w]
          rfl
         refine pure_ (i := 14) (N := some 97) (v := undef) (a' := ?_) #[true, true, true, true, true, true, true, true, true, true, true, true, true, true, true, false, false] rfl rfl (any_of HT_.out (by kernel_rfl)) (fun _ _ _ h => h) (Or.inr ⟨by rfl, rfl⟩) ?_ ?_
         rotate_left
         ·simp only [Act.put, List.setIfInBounds_toArray, List.set_cons_zero, List.set_cons_succ, i64_w, i32_w]
          rfl
         refine pure_ (i := 15) (N := some 98) (v := ?_) (a' := ?_) #[true, true, true, true, true, true, true, true, true, true, true, true, true, true, true, true, false] rfl rfl (any_of HT_.out (by kernel_rfl)) (fun _ _ _ h => h) (Or.inl ⟨by rfl, ?_⟩) ?_ ?_
         rotate_left
         ·intro w'
          go_simp
          with_reducible rfl
         rotate_left
         ·simp only [Act.put, List.setIfInBounds_toArray, List.set_cons_zero, List.set_cons_succ, i64_w, i32_w]
          rfl
         refine pure_ (i := 16) (N := some 4) (v := ?_) (a' := ?_) #[true, true, true, true, true, true, true, true, true, true, true, true, true, true, true, true, true] rfl rfl (any_of HT_.out (by kernel_rfl)) (fun _ _ _ h => h) (Or.inl ⟨by rfl, ?_⟩) ?_ ?_
         rotate_left
         ·intro w'
          go_simp
          with_reducible rfl
         rotate_left
         ·simp only [Act.put, List.setIfInBounds_toArray, List.set_cons_zero, List.set_cons_succ, i64_w, i32_w]
          rfl
         refine done_ (done_of HT_.out (by kernel_rfl)) ?_
         try go_wp2
         go_ret
         exact ⟨by first | rfl | (simp [errW_none, errW_some] <;> rfl) | (simp [*, errW_none, errW_some] <;> rfl), bb⟩
        ·rw [if_neg c112] at H
         have c112b0 : (t633 == 4) = false := beq_eq_false_iff_ne.mpr c112
         have c112b1 : (t633 != 4) = true := bne_iff_ne.mpr c112
         exact absurd ((Option.some.inj H).trans hT_.out) (by decide)

end Go.Proofs.Ytjicfkmpgogppaa.PG
