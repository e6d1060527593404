-- printed by a program of this session out of the translation; see NOTES.md
import Derived.Test.YtjicfkmpgogppaaPGx0
import Derived.Test.YtjicfkmpgogppaaTnT
import Derived.Test.YtjicfkmpgogppaaPGx1
import Derived.Test.YtjicfkmpgogppaaPGx4
import Derived.Test.YtjicfkmpgogppaaPGx9
import Derived.Test.YtjicfkmpgogppaaPGx17
import Derived.Test.YtjicfkmpgogppaaRb
namespace Go.Proofs.Ytjicfkmpgogppaa.PG
open Go.RowKit Go.Proofs.YtjicfkmpgogppaaW.PrintWords Go.Proofs.YtjicfkmpgogppaaW.PrintLast Go.Proofs.YtjicfkmpgogppaaW.PrintMore Go.Proofs.YtjicfkmpgogppaaRb
attribute [local go_sem] max2_int min2_int max_two min_two max_three min_three max_four min_four   -- for this text's walks alone
set_option linter.unusedVariables false
set_option linter.unusedSimpArgs false

/-! ### precinctlaw12_GraphNames: function 5 -/
mutual
def precinctlaw12_GraphNames.l0 : Nat → Int → List (S48) → Int → Int → ByteArray → List (S48) → ByteArray → List (S48) → Option (Bool)
 | 0, _, _, _, _, _, _, _, _ => none
 | k + 1, x1, x31, x32, x33, x233000, x233001, x235000, x235001 => if x33 < x32 then (if 0 ≤ x33 then (if x33 < (x31.length : Int) then ((Tn.turn.f ((rd_T48 x31 x33).f0) x1).bind fun t237 => (precinctlaw12_GraphNames.l1 k x1 (([] : List ByteArray)) x31 x32 x33 ((rd_T48 x31 x33).f1) (((rd_T48 x31 x33).f1).length : Int) 0 x233000 x233001 x235000 x235001 t237 ((rd_T48 x31 x33).f1) ((rd_T48 x31 x33).f2) ((rd_T48 x31 x33).f3) ((rd_T48 x31 x33).f4) ((rd_T48 x31 x33).f5))) else (none)) else (none)) else ((graph_Check.f k x233000 x233001).bind fun bt249 => ((graph_Check.f k x235000 x235001).bind fun bt251 => ((precinctlaw12_wakes.f).bind fun t253 => (if t253 = true then (if bt249.1 = bt251.1 then (precinctlaw12_GraphNames.j2 k bt249.2 (bt249.2 != bt251.2) x233000 x233001 x235000 x235001) else (precinctlaw12_GraphNames.j2 k bt249.2 true x233000 x233001 x235000 x235001)) else (precinctlaw12_GraphNames.j2 k bt249.2 true x233000 x233001 x235000 x235001)))))
def precinctlaw12_GraphNames.l1 : Nat → Int → List ByteArray → List (S48) → Int → Int → List ByteArray → Int → Int → ByteArray → List (S48) → ByteArray → List (S48) → ByteArray → List ByteArray → Int → Int → Int → ByteArray → Option (Bool)
 | 0, _, _, _, _, _, _, _, _, _, _, _, _, _, _, _, _, _, _ => none
 | k + 1, x1, x11, x31, x32, x33, x44, x45, x46, x233000, x233001, x235000, x235001, x237000, x237001, x237002, x237003, x237004, x237005 => if x46 < x45 then (if 0 ≤ x46 then (if x46 < (x44.length : Int) then ((Tn.turn.f (rdOf ByteArray.empty x44 x46) x1).bind fun t242 => (if x11.length < 8796093022208 then (precinctlaw12_GraphNames.l1 k x1 (x11 ++ [t242]) x31 x32 x33 x44 x45 (wrap64 (x46 + 1)) x233000 x233001 x235000 x235001 x237000 x237001 x237002 x237003 x237004 x237005) else (none))) else (none)) else (none)) else (if x235001.length < 1759218604441 then (precinctlaw12_GraphNames.l0 k x1 x31 x32 (wrap64 (x33 + 1)) x233000 x233001 x235000 (x235001 ++ [(⟨x237000, x11, x237002, x237003, x237004, x237005⟩ : S48)])) else (none))
def precinctlaw12_GraphNames.j2 : Nat → Int → Bool → ByteArray → List (S48) → ByteArray → List (S48) → Option (Bool)
 | 0, _, _, _, _, _, _ => none
 | k + 1, x15, x87, x233000, x233001, x235000, x235001 => if x87 = true then (some false) else (if x15 = 0 then ((graph_Masks.f k x233000 x233001).bind fun t254 => ((graph_Masks.f k x235000 x235001).bind fun t257 => (precinctlaw12_GraphNames.l2 k t254 t257 (t254.length : Int) 0))) else (some true))
def precinctlaw12_GraphNames.l2 : Nat → List Int → List Int → Int → Int → Option (Bool)
 | 0, _, _, _, _ => none
 | k + 1, x18, x19, x95, x96 => if x96 < x95 then (if x96 ≥ (x19.length : Int) then (some false) else (if 0 ≤ x96 then (if x96 < (x18.length : Int) then (if x96 < (x19.length : Int) then (if (rd x18 x96) = (rd x19 x96) then (precinctlaw12_GraphNames.l2 k x18 x19 x95 (wrap64 (x96 + 1))) else (some false)) else (none)) else (none)) else (none))) else (some ((x18.length : Int) == (x19.length : Int)))
end
def precinctlaw12_GraphNames.f (k : Nat) (a0_0 : ByteArray) (l0_1 : List (S124)) (a1 : Int) : Option (Bool) := (precinctlaw12_flows.f a0_0 l0_1).bind fun bt224 => (precinctlaw12_GraphNames.l0 k a1 bt224.2.1 (bt224.2.1.length : Int) 0 bt224.1 bt224.2.1 bt224.1 ([] : List (S48)))
theorem precinctlaw12_GraphNames.mono_l : ∀ k, (∀ y0 y1 y2 y3 y4 y5 y6 y7, LeO (precinctlaw12_GraphNames.l0 k y0 y1 y2 y3 y4 y5 y6 y7) (precinctlaw12_GraphNames.l0 (k + 1) y0 y1 y2 y3 y4 y5 y6 y7)) ∧ (∀ y0 y1 y2 y3 y4 y5 y6 y7 y8 y9 y10 y11 y12 y13 y14 y15 y16 y17, LeO (precinctlaw12_GraphNames.l1 k y0 y1 y2 y3 y4 y5 y6 y7 y8 y9 y10 y11 y12 y13 y14 y15 y16 y17) (precinctlaw12_GraphNames.l1 (k + 1) y0 y1 y2 y3 y4 y5 y6 y7 y8 y9 y10 y11 y12 y13 y14 y15 y16 y17)) ∧ (∀ y0 y1 y2 y3 y4 y5, LeO (precinctlaw12_GraphNames.j2 k y0 y1 y2 y3 y4 y5) (precinctlaw12_GraphNames.j2 (k + 1) y0 y1 y2 y3 y4 y5)) ∧ (∀ y0 y1 y2 y3, LeO (precinctlaw12_GraphNames.l2 k y0 y1 y2 y3) (precinctlaw12_GraphNames.l2 (k + 1) y0 y1 y2 y3))
 | 0 => ⟨fun _ _ _ _ _ _ _ _ r h => by simp [precinctlaw12_GraphNames.l0] at h, fun _ _ _ _ _ _ _ _ _ _ _ _ _ _ _ _ _ _ r h => by simp [precinctlaw12_GraphNames.l1] at h, fun _ _ _ _ _ _ r h => by simp [precinctlaw12_GraphNames.j2] at h, fun _ _ _ _ r h => by simp [precinctlaw12_GraphNames.l2] at h⟩
 | k + 1 => by
  obtain ⟨ih0, ih1, ih2, ih3⟩ := precinctlaw12_GraphNames.mono_l k
  refine ⟨?_, ?_, ?_, ?_⟩
  ·intro y0 y1 y2 y3 y4 y5 y6 y7
   unfold precinctlaw12_GraphNames.l0
   repeat' first
   | (with_reducible exact ih0 _ _ _ _ _ _ _ _)
   | (with_reducible exact ih1 _ _ _ _ _ _ _ _ _ _ _ _ _ _ _ _ _ _)
   | (with_reducible exact ih2 _ _ _ _ _ _)
   | (with_reducible exact ih3 _ _ _ _)
   | (with_reducible exact graph_Check.mono _ _ _)
   | (with_reducible exact graph_Masks.mono _ _ _)
   | (with_reducible exact LeO.refl _)
   | (with_reducible exact LeO.none _)
   | (with_reducible refine LeO.ite ?_ ?_)
   | (with_reducible refine LeO.bind ?_ (fun _ => ?_))
   | exact ih0 _ _ _ _ _ _ _ _
   | exact ih1 _ _ _ _ _ _ _ _ _ _ _ _ _ _ _ _ _ _
   | exact ih2 _ _ _ _ _ _
   | exact ih3 _ _ _ _
   | exact graph_Check.mono _ _ _
   | exact graph_Masks.mono _ _ _
   | exact LeO.none _
   | refine LeO.ite ?_ ?_
   | refine LeO.bind ?_ (fun _ => ?_)
  ·intro y0 y1 y2 y3 y4 y5 y6 y7 y8 y9 y10 y11 y12 y13 y14 y15 y16 y17
   unfold precinctlaw12_GraphNames.l1
   repeat' first
   | (with_reducible exact ih0 _ _ _ _ _ _ _ _)
   | (with_reducible exact ih1 _ _ _ _ _ _ _ _ _ _ _ _ _ _ _ _ _ _)
   | (with_reducible exact ih2 _ _ _ _ _ _)
   | (with_reducible exact ih3 _ _ _ _)
   | (with_reducible exact graph_Check.mono _ _ _)
   | (with_reducible exact graph_Masks.mono _ _ _)
   | (with_reducible exact LeO.refl _)
   | (with_reducible exact LeO.none _)
   | (with_reducible refine LeO.ite ?_ ?_)
   | (with_reducible refine LeO.bind ?_ (fun _ => ?_))
   | exact ih0 _ _ _ _ _ _ _ _
   | exact ih1 _ _ _ _ _ _ _ _ _ _ _ _ _ _ _ _ _ _
   | exact ih2 _ _ _ _ _ _
   | exact ih3 _ _ _ _
   | exact graph_Check.mono _ _ _
   | exact graph_Masks.mono _ _ _
   | exact LeO.none _
   | refine LeO.ite ?_ ?_
   | refine LeO.bind ?_ (fun _ => ?_)
  ·intro y0 y1 y2 y3 y4 y5
   unfold precinctlaw12_GraphNames.j2
   repeat' first
   | (with_reducible exact ih0 _ _ _ _ _ _ _ _)
   | (with_reducible exact ih1 _ _ _ _ _ _ _ _ _ _ _ _ _ _ _ _ _ _)
   | (with_reducible exact ih2 _ _ _ _ _ _)
   | (with_reducible exact ih3 _ _ _ _)
   | (with_reducible exact graph_Check.mono _ _ _)
   | (with_reducible exact graph_Masks.mono _ _ _)
   | (with_reducible exact LeO.refl _)
   | (with_reducible exact LeO.none _)
   | (with_reducible refine LeO.ite ?_ ?_)
   | (with_reducible refine LeO.bind ?_ (fun _ => ?_))
   | exact ih0 _ _ _ _ _ _ _ _
   | exact ih1 _ _ _ _ _ _ _ _ _ _ _ _ _ _ _ _ _ _
   | exact ih2 _ _ _ _ _ _
   | exact ih3 _ _ _ _
   | exact graph_Check.mono _ _ _
   | exact graph_Masks.mono _ _ _
   | exact LeO.none _
   | refine LeO.ite ?_ ?_
   | refine LeO.bind ?_ (fun _ => ?_)
  ·intro y0 y1 y2 y3
   unfold precinctlaw12_GraphNames.l2
   repeat' first
   | (with_reducible exact ih0 _ _ _ _ _ _ _ _)
   | (with_reducible exact ih1 _ _ _ _ _ _ _ _ _ _ _ _ _ _ _ _ _ _)
   | (with_reducible exact ih2 _ _ _ _ _ _)
   | (with_reducible exact ih3 _ _ _ _)
   | (with_reducible exact graph_Check.mono _ _ _)
   | (with_reducible exact graph_Masks.mono _ _ _)
   | (with_reducible exact LeO.refl _)
   | (with_reducible exact LeO.none _)
   | (with_reducible refine LeO.ite ?_ ?_)
   | (with_reducible refine LeO.bind ?_ (fun _ => ?_))
   | exact ih0 _ _ _ _ _ _ _ _
   | exact ih1 _ _ _ _ _ _ _ _ _ _ _ _ _ _ _ _ _ _
   | exact ih2 _ _ _ _ _ _
   | exact ih3 _ _ _ _
   | exact graph_Check.mono _ _ _
   | exact graph_Masks.mono _ _ _
   | exact LeO.none _
   | refine LeO.ite ?_ ?_
   | refine LeO.bind ?_ (fun _ => ?_)
theorem precinctlaw12_GraphNames.mono : ∀ a0 a1 a2 k, LeO (precinctlaw12_GraphNames.f k a0 a1 a2) (precinctlaw12_GraphNames.f (k + 1) a0 a1 a2) := by
 intro a0 a1 a2 k
 obtain ⟨ih0, ih1, ih2, ih3⟩ := precinctlaw12_GraphNames.mono_l k
 unfold precinctlaw12_GraphNames.f
 repeat' first
   | (with_reducible exact ih0 _ _ _ _ _ _ _ _)
   | (with_reducible exact ih1 _ _ _ _ _ _ _ _ _ _ _ _ _ _ _ _ _ _)
   | (with_reducible exact ih2 _ _ _ _ _ _)
   | (with_reducible exact ih3 _ _ _ _)
   | (with_reducible exact graph_Check.mono _ _ _)
   | (with_reducible exact graph_Masks.mono _ _ _)
   | (with_reducible exact LeO.refl _)
   | (with_reducible exact LeO.none _)
   | (with_reducible refine LeO.ite ?_ ?_)
   | (with_reducible refine LeO.bind ?_ (fun _ => ?_))
   | exact ih0 _ _ _ _ _ _ _ _
   | exact ih1 _ _ _ _ _ _ _ _ _ _ _ _ _ _ _ _ _ _
   | exact ih2 _ _ _ _ _ _
   | exact ih3 _ _ _ _
   | exact graph_Check.mono _ _ _
   | exact graph_Masks.mono _ _ _
   | exact LeO.none _
   | refine LeO.ite ?_ ?_
   | refine LeO.bind ?_ (fun _ => ?_)
def precinctlaw12_GraphNames.T27 : Bool × List (List Nat × List Nat) := (true, [([], []), ([], []), ([1], [1]), ([0, 2], [0, 2]), ([3], [3]), ([4], [4]), ([4], [4]), ([5, 6, 4], [4, 5, 6]), ([7, 4], [4, 7]), ([4], [4]), ([4], [4]), ([9, 10, 4], [4, 9, 10]), ([11, 4], [4, 11]), ([8, 12, 4], [4, 8, 12]), ([4, 13], [4, 13])])
def precinctlaw12_GraphNames.B27 : List Nat := [0, 0, 2, 7, 15, 31, 31, 127, 255, 31, 31, 1567, 3615, 8191, 16383]
theorem precinctlaw12_GraphNames.tab27 : rtab .any (opsOf Try.f5 27) = precinctlaw12_GraphNames.T27 := by kernel_rfl
theorem precinctlaw12_GraphNames.bits27 : waitsOk precinctlaw12_GraphNames.T27.2 precinctlaw12_GraphNames.B27 = true := by kernel_rfl
set_option maxHeartbeats 8000000 in
set_option maxRecDepth 100000 in
theorem precinctlaw12_GraphNames.calls (k : Nat) (a0_0 : ByteArray) (A0_1 : Option Addr) (c0_1 : Nat) (l0_1 : List (S124)) (a1 : Int) (r : Bool) (w : World) (hr0_1 : Kd.C k124 w A0_1 l0_1.length l0_1) (hc0_1 : l0_1.length ≤ c0_1) (hT_ : Aside0 (r = true)) (h : precinctlaw12_GraphNames.f k a0_0 l0_1 a1 = some r) :
  Calls Try.prog 5 #[.agg #[.string a0_0, .slice A0_1 l0_1.length c0_1], .int .i64 a1] w fun e w' => e = .returned (.bool r) ∧ Below w.heap.size w w' := by
 have hu24 := Try.underlying24
 have hu27 := Try.underlying27
 have hu30 := Try.underlying30
 have hu48 := Try.underlying48
 have HR0_1 := Aside0.mk hr0_1
 have HC0_1 := Aside0.mk hc0_1
 clear hr0_1 hc0_1
 have HB := Aside0.mk (Below.refl w.heap.size w)
 have H : ((precinctlaw12_flows.f a0_0 l0_1).bind fun bt224 => (precinctlaw12_GraphNames.l0 k a1 bt224.2.1 (bt224.2.1.length : Int) 0 bt224.1 bt224.2.1 bt224.1 ([] : List (S48)))) = some r := h
 clear h
 replace H := Option.bind_eq_some_iff.mp H
 obtain ⟨⟨t224, t225, t228, t229⟩, A30, H⟩ := H
 replace H : (precinctlaw12_GraphNames.l0 k a1 t225 (t225.length : Int) 0 t224 t225 t224 ([] : List (S48))) = some r := H
 have A3 := Aside0.mk A30
 clear A30
 have H' := Aside0.mk H
 clear H
 go_enter Try.func5, Try.ntmps5
 go_wp2_with (first | ((with_reducible refine gate_dst (N := 2) rfl ?_); refine box_event ?hg (N := 2) ?hd (cs := #[.string a0_0, .slice A0_1 l0_1.length c0_1]) (t := 24) ?hr ?_; (case hd => rfl); (case hg => rfl); (case hr => first | (go_simp; done) | (go_simp; rfl)); intro gb222 hg w4 hbox hb; have n0_ := Aside0.mk (below_step bb hb); have n1_ := Aside0.mk (hbox); have n2_ := Aside0.mk ((by rw [hg]; exact (below_size bb) : w.heap.size ≤ gb222)); have n3_ := Aside0.mk ((by rw [hg]; exact (below_size bb) : w.heap.size ≤ gb222)); clear HB; have HB := n0_; have BK222 := n1_; have GW222 := n2_; have GE222 := n3_; clear n0_ n1_ n2_ n3_; clear hb hbox hg) | ((with_reducible refine gate_dst (N := 3) rfl ?_); refine box_event ?hg (N := 3) ?hd (cs := #[.int .i64 a1]) (t := 3) ?hr ?_; (case hd => rfl); (case hg => rfl); (case hr => first | (go_simp; done) | (go_simp; rfl)); intro gb223 hg w5 hbox hb; have n0_ := Aside0.mk (blk_below (rb BK222.out) hb); have n1_ := Aside0.mk (below_step bb hb); have n2_ := Aside0.mk (hbox); have n3_ := Aside0.mk ((by rw [hg]; exact (below_size bb) : w.heap.size ≤ gb223)); have n4_ := Aside0.mk ((by rw [hg]; exact (below_size bb) : w.heap.size ≤ gb223)); have n5_ := Aside0.mk ((by rw [hg]; exact Nat.ne_of_lt (blk_lt (rb BK222.out)) : gb222 ≠ gb223)); have n6_ := Aside0.mk ((by rw [hg]; exact Nat.ne_of_gt (blk_lt (rb BK222.out)) : gb223 ≠ gb222)); clear BK222; clear HB; have BK222 := n0_; have HB := n1_; have BK223 := n2_; have GW223 := n3_; have GE223 := n4_; have NB222_223 := n5_; have NB223_222 := n6_; clear n0_ n1_ n2_ n3_ n4_ n5_ n6_; clear hb hbox hg; have hnb6 := NB222_223.out; have hnc6 := NB223_222.out; have hcz7_0 : w5.cell? ⟨gb222, 0, none⟩ = some (.string a0_0) := (blk_cell BK222.out 0).trans rfl; have hcz7_1 : w5.cell? ⟨gb222, 1, none⟩ = some (.slice A0_1 l0_1.length c0_1) := (blk_cell BK222.out 1).trans rfl; have hfz7_0 := blk_frozen BK222.out 0; have hfz7_1 := blk_frozen BK222.out 1) | ((with_reducible refine gate_callee (f := 14) rfl ?_); refine goesL_ (some 23) rfl rfl Try.func14 (by kernel_rfl) rfl #[.agg #[.string a0_0, .slice A0_1 l0_1.length c0_1]] rfl ag ?_; (with_reducible refine (precinctlaw12_flows.calls a0_0 _ _ l0_1 t224 t225 t228 t229 _ ?side1 ?side2 A3.out).mono ?_); (case side1 => repeat (first | exact (Kd.C_below HR0_1.out HB.out) | (with_reducible refine Kd.C_alloc ?_ _) | (with_reducible refine Kd.C_drewN ?_ _) | (with_reducible refine Kd.C_drew ?_))); (case side2 => exact HC0_1.out); rintro e w8 ⟨v226, v230, rfl, ho0, ho1, hb⟩; refine ⟨_, rfl, ?_⟩; have n0_ := Aside0.mk (Kd.S_lower ho0 (below_size bb)); have n1_ := Aside0.mk (Kd.S_lower ho1 (below_size bb)); have n2_ := Aside0.mk (blk_below (rb BK222.out) hb); have n3_ := Aside0.mk (blk_below (rb BK223.out) hb); have n4_ := Aside0.mk (below_step bb hb); clear BK222; clear BK223; clear HB; have HO227 := n0_; have HO231 := n1_; have BK222 := n2_; have BK223 := n3_; have HB := n4_; clear n0_ n1_ n2_ n3_ n4_; (try clear hb); (try clear hb2); (try clear hk); (try clear hi); (try clear ho0); (try clear ho1)) | ((with_reducible refine gate_dst (N := 5) rfl ?_); refine box_event ?hg (N := 5) ?hd (cs := #[.string (⟨#[]⟩ : ByteArray), .slice none 0 0]) (t := 27) ?hr ?_; (case hd => rfl); (case hg => rfl); (case hr => first | (go_simp; done) | (go_simp; rfl)); intro gb232 hg w9 hbox hb; have n0_ := Aside0.mk (Kd.S_below (by (with_reducible repeat (first | apply Kd.S_alloc | apply Kd.S_drewN | apply Kd.S_drew)); exact HO227.out) hb); have n1_ := Aside0.mk (Kd.S_below (by (with_reducible repeat (first | apply Kd.S_alloc | apply Kd.S_drewN | apply Kd.S_drew)); exact HO231.out) hb); have n2_ := Aside0.mk (blk_below (rb BK222.out) hb); have n3_ := Aside0.mk (blk_below (rb BK223.out) hb); have n4_ := Aside0.mk (below_step bb hb); have n5_ := Aside0.mk (hbox); have n6_ := Aside0.mk ((by rw [hg]; exact (below_size bb) : w.heap.size ≤ gb232)); have n7_ := Aside0.mk ((by rw [hg]; exact (below_size bb) : w.heap.size ≤ gb232)); have n8_ := Aside0.mk ((by rw [hg]; exact Nat.ne_of_lt (blk_lt (rb BK222.out)) : gb222 ≠ gb232)); have n9_ := Aside0.mk ((by rw [hg]; exact Nat.ne_of_gt (blk_lt (rb BK222.out)) : gb232 ≠ gb222)); have n10_ := Aside0.mk ((by rw [hg]; exact Nat.ne_of_lt (blk_lt (rb BK223.out)) : gb223 ≠ gb232)); have n11_ := Aside0.mk ((by rw [hg]; exact Nat.ne_of_gt (blk_lt (rb BK223.out)) : gb232 ≠ gb223)); clear HO227; clear HO231; clear BK222; clear BK223; clear HB; have HO227 := n0_; have HO231 := n1_; have BK222 := n2_; have BK223 := n3_; have HB := n4_; have BK232 := n5_; have GW232 := n6_; have GE232 := n7_; have NB222_232 := n8_; have NB232_222 := n9_; have NB223_232 := n10_; have NB232_223 := n11_; clear n0_ n1_ n2_ n3_ n4_ n5_ n6_ n7_ n8_ n9_ n10_ n11_; clear hb hbox hg) | ((with_reducible refine gate_dst (N := 6) rfl ?_); refine box_event ?hg (N := 6) ?hd (cs := #[.string (⟨#[]⟩ : ByteArray), .slice none 0 0]) (t := 30) ?hr ?_; (case hd => rfl); (case hg => rfl); (case hr => first | (go_simp; done) | (go_simp; rfl)); intro gb233 hg w10 hbox hb; have n0_ := Aside0.mk (Kd.S_below (by (with_reducible repeat (first | apply Kd.S_alloc | apply Kd.S_drewN | apply Kd.S_drew)); exact HO227.out) hb); have n1_ := Aside0.mk (Kd.S_below (by (with_reducible repeat (first | apply Kd.S_alloc | apply Kd.S_drewN | apply Kd.S_drew)); exact HO231.out) hb); have n2_ := Aside0.mk (blk_below (rb BK222.out) hb); have n3_ := Aside0.mk (blk_below (rb BK223.out) hb); have n4_ := Aside0.mk (blk_below (g := gb232) (o := .cells #[.string (⟨#[]⟩ : ByteArray), .slice none 0 0] 27 (0, 0)) (rb BK232.out) hb); have n5_ := Aside0.mk (below_step bb hb); have n6_ := Aside0.mk (hbox); have n7_ := Aside0.mk ((by rw [hg]; exact (below_size bb) : w.heap.size ≤ gb233)); have n8_ := Aside0.mk ((by rw [hg]; exact (below_size bb) : w.heap.size ≤ gb233)); have n9_ := Aside0.mk ((by rw [hg]; exact Nat.ne_of_lt (blk_lt (rb BK222.out)) : gb222 ≠ gb233)); have n10_ := Aside0.mk ((by rw [hg]; exact Nat.ne_of_gt (blk_lt (rb BK222.out)) : gb233 ≠ gb222)); have n11_ := Aside0.mk ((by rw [hg]; exact Nat.ne_of_lt (blk_lt (rb BK223.out)) : gb223 ≠ gb233)); have n12_ := Aside0.mk ((by rw [hg]; exact Nat.ne_of_gt (blk_lt (rb BK223.out)) : gb233 ≠ gb223)); have n13_ := Aside0.mk ((by rw [hg]; exact Nat.ne_of_lt (blk_lt (g := gb232) (o := .cells #[.string (⟨#[]⟩ : ByteArray), .slice none 0 0] 27 (0, 0)) (rb BK232.out)) : gb232 ≠ gb233)); have n14_ := Aside0.mk ((by rw [hg]; exact Nat.ne_of_gt (blk_lt (g := gb232) (o := .cells #[.string (⟨#[]⟩ : ByteArray), .slice none 0 0] 27 (0, 0)) (rb BK232.out)) : gb233 ≠ gb232)); clear HO227; clear HO231; clear BK222; clear BK223; clear BK232; clear HB; have HO227 := n0_; have HO231 := n1_; have BK222 := n2_; have BK223 := n3_; have BK232 := n4_; have HB := n5_; have BK233 := n6_; have GW233 := n7_; have GE233 := n8_; have NB222_233 := n9_; have NB233_222 := n10_; have NB223_233 := n11_; have NB233_223 := n12_; have NB232_233 := n13_; have NB233_232 := n14_; clear n0_ n1_ n2_ n3_ n4_ n5_ n6_ n7_ n8_ n9_ n10_ n11_ n12_ n13_ n14_; clear hb hbox hg; have hnb11 := NB232_222.out; have hnc11 := NB222_232.out; have hnb12 := NB232_223.out; have hnc12 := NB223_232.out; have hnb13 := NB232_233.out; have hnc13 := NB233_232.out; have hcz14_0 : w10.cell? ⟨gb232, 0, none⟩ = some (.string (⟨#[]⟩ : ByteArray)) := (blk_cell BK232.out 0).trans rfl; have hcz14_1 : w10.cell? ⟨gb232, 1, none⟩ = some (.slice none 0 0) := (blk_cell BK232.out 1).trans rfl; have hfz14_0 := blk_frozen BK232.out 0; have hfz14_1 := blk_frozen BK232.out 1; obtain ⟨Ao15, co15, eo15⟩ := Kd.S_slice HO227.out; subst eo15; have hnb16 := NB233_222.out; have hnc16 := NB222_233.out; have hnb17 := NB233_223.out; have hnc17 := NB223_233.out; have hcz18_0 : w10.cell? ⟨gb233, 0, none⟩ = some (.string (⟨#[]⟩ : ByteArray)) := (blk_cell BK233.out 0).trans rfl; have hcz18_1 : w10.cell? ⟨gb233, 1, none⟩ = some (.slice none 0 0) := (blk_cell BK233.out 1).trans rfl; have hfz18_0 := blk_frozen BK233.out 0; have hfz18_1 := blk_frozen BK233.out 1; obtain ⟨Ao19, co19, eo19⟩ := Kd.S_slice HO231.out; subst eo19) | ((with_reducible refine gate_dst (N := 8) rfl ?_); refine box_event ?hg (N := 8) ?hd (cs := #[.string (⟨#[]⟩ : ByteArray), .slice none 0 0]) (t := 27) ?hr ?_; (case hd => rfl); (case hg => rfl); (case hr => first | (go_simp; done) | (go_simp; rfl)); intro gb234 hg w20 hbox hb; have n0_ := Aside0.mk (Kd.S_below (by (with_reducible repeat (first | apply Kd.S_alloc | apply Kd.S_drewN | apply Kd.S_drew)); exact (Kd.S_mono (Kd.S_mono (Kd.S_far (p := ⟨gb233, 1, none⟩) (Kd.S_far (p := ⟨gb233, 0, none⟩) (Kd.S_far (p := ⟨gb232, 1, none⟩) (Kd.S_far (p := ⟨gb232, 0, none⟩) (Kd.S_types (Kd.S_types HO227.out BK232.out (by decide)) BK233.out (by decide)) (fun _ hk => hk.1.2) (.string t224)) (fun _ hk => hk.1.2) (.slice Ao15 t225.length co15)) (fun _ hk => hk.2) (.string t228)) (fun _ hk => hk.2) (.slice Ao19 t229.length co19)) (fun _ h_ => h_.1)) (fun _ h_ => h_.1))) hb); have n1_ := Aside0.mk (Kd.S_below (by (with_reducible repeat (first | apply Kd.S_alloc | apply Kd.S_drewN | apply Kd.S_drew)); exact (Kd.S_mono (Kd.S_mono (Kd.S_far (p := ⟨gb233, 1, none⟩) (Kd.S_far (p := ⟨gb233, 0, none⟩) (Kd.S_far (p := ⟨gb232, 1, none⟩) (Kd.S_far (p := ⟨gb232, 0, none⟩) (Kd.S_types (Kd.S_types HO231.out BK232.out (by decide)) BK233.out (by decide)) (fun _ hk => hk.1.2) (.string t224)) (fun _ hk => hk.1.2) (.slice Ao15 t225.length co15)) (fun _ hk => hk.2) (.string t228)) (fun _ hk => hk.2) (.slice Ao19 t229.length co19)) (fun _ h_ => h_.1)) (fun _ h_ => h_.1))) hb); have n2_ := Aside0.mk (blk_below (rb (blk_far (rb (blk_far (rb (blk_far (rb (blk_far (rb BK222.out) NB222_232.out _)) NB222_232.out _)) NB222_233.out _)) NB222_233.out _)) hb); have n3_ := Aside0.mk (blk_below (rb (blk_far (rb (blk_far (rb (blk_far (rb (blk_far (rb BK223.out) NB223_232.out _)) NB223_232.out _)) NB223_233.out _)) NB223_233.out _)) hb); have n4_ := Aside0.mk (blk_below (rb (blk_far (rb (blk_far (rb (blk_put (cs := #[.string t224, .slice none 0 0]) (rb (blk_put (cs := #[.string (⟨#[]⟩ : ByteArray), .slice none 0 0]) (rb BK232.out) 0 _ rfl)) 1 _ rfl)) NB232_233.out _)) NB232_233.out _)) hb); have n5_ := Aside0.mk (blk_below (rb (blk_put (cs := #[.string t228, .slice none 0 0]) (rb (blk_put (cs := #[.string (⟨#[]⟩ : ByteArray), .slice none 0 0]) (rb (blk_far (rb (blk_far (rb BK233.out) NB233_232.out _)) NB233_232.out _)) 0 _ rfl)) 1 _ rfl)) hb); have n6_ := Aside0.mk (below_step bb hb); have n7_ := Aside0.mk (hbox); have n8_ := Aside0.mk ((by rw [hg]; exact (below_size bb) : w.heap.size ≤ gb234)); have n9_ := Aside0.mk ((by rw [hg]; exact (below_size bb) : w.heap.size ≤ gb234)); have n10_ := Aside0.mk ((by rw [hg]; exact Nat.ne_of_lt (blk_lt (rb (blk_far (rb (blk_far (rb (blk_far (rb (blk_far (rb BK222.out) NB222_232.out _)) NB222_232.out _)) NB222_233.out _)) NB222_233.out _))) : gb222 ≠ gb234)); have n11_ := Aside0.mk ((by rw [hg]; exact Nat.ne_of_gt (blk_lt (rb (blk_far (rb (blk_far (rb (blk_far (rb (blk_far (rb BK222.out) NB222_232.out _)) NB222_232.out _)) NB222_233.out _)) NB222_233.out _))) : gb234 ≠ gb222)); have n12_ := Aside0.mk ((by rw [hg]; exact Nat.ne_of_lt (blk_lt (rb (blk_far (rb (blk_far (rb (blk_far (rb (blk_far (rb BK223.out) NB223_232.out _)) NB223_232.out _)) NB223_233.out _)) NB223_233.out _))) : gb223 ≠ gb234)); have n13_ := Aside0.mk ((by rw [hg]; exact Nat.ne_of_gt (blk_lt (rb (blk_far (rb (blk_far (rb (blk_far (rb (blk_far (rb BK223.out) NB223_232.out _)) NB223_232.out _)) NB223_233.out _)) NB223_233.out _))) : gb234 ≠ gb223)); have n14_ := Aside0.mk ((by rw [hg]; exact Nat.ne_of_lt (blk_lt (rb (blk_far (rb (blk_far (rb (blk_put (cs := #[.string t224, .slice none 0 0]) (rb (blk_put (cs := #[.string (⟨#[]⟩ : ByteArray), .slice none 0 0]) (rb BK232.out) 0 _ rfl)) 1 _ rfl)) NB232_233.out _)) NB232_233.out _))) : gb232 ≠ gb234)); have n15_ := Aside0.mk ((by rw [hg]; exact Nat.ne_of_gt (blk_lt (rb (blk_far (rb (blk_far (rb (blk_put (cs := #[.string t224, .slice none 0 0]) (rb (blk_put (cs := #[.string (⟨#[]⟩ : ByteArray), .slice none 0 0]) (rb BK232.out) 0 _ rfl)) 1 _ rfl)) NB232_233.out _)) NB232_233.out _))) : gb234 ≠ gb232)); have n16_ := Aside0.mk ((by rw [hg]; exact Nat.ne_of_lt (blk_lt (rb (blk_put (cs := #[.string t228, .slice none 0 0]) (rb (blk_put (cs := #[.string (⟨#[]⟩ : ByteArray), .slice none 0 0]) (rb (blk_far (rb (blk_far (rb BK233.out) NB233_232.out _)) NB233_232.out _)) 0 _ rfl)) 1 _ rfl))) : gb233 ≠ gb234)); have n17_ := Aside0.mk ((by rw [hg]; exact Nat.ne_of_gt (blk_lt (rb (blk_put (cs := #[.string t228, .slice none 0 0]) (rb (blk_put (cs := #[.string (⟨#[]⟩ : ByteArray), .slice none 0 0]) (rb (blk_far (rb (blk_far (rb BK233.out) NB233_232.out _)) NB233_232.out _)) 0 _ rfl)) 1 _ rfl))) : gb234 ≠ gb233)); clear HO227; clear HO231; clear BK222; clear BK223; clear BK232; clear BK233; clear HB; have HO227 := n0_; have HO231 := n1_; have BK222 := n2_; have BK223 := n3_; have BK232 := n4_; have BK233 := n5_; have HB := n6_; have BK234 := n7_; have GW234 := n8_; have GE234 := n9_; have NB222_234 := n10_; have NB234_222 := n11_; have NB223_234 := n12_; have NB234_223 := n13_; have NB232_234 := n14_; have NB234_232 := n15_; have NB233_234 := n16_; have NB234_233 := n17_; clear n0_ n1_ n2_ n3_ n4_ n5_ n6_ n7_ n8_ n9_ n10_ n11_ n12_ n13_ n14_ n15_ n16_ n17_; clear hb hbox hg; have hnb21 := NB234_222.out; have hnc21 := NB222_234.out; have hnb22 := NB234_223.out; have hnc22 := NB223_234.out; have hnb23 := NB234_232.out; have hnc23 := NB232_234.out; have hnb24 := NB234_233.out; have hnc24 := NB233_234.out; have hcz25_0 : w20.cell? ⟨gb234, 0, none⟩ = some (.string (⟨#[]⟩ : ByteArray)) := (blk_cell BK234.out 0).trans rfl; have hcz25_1 : w20.cell? ⟨gb234, 1, none⟩ = some (.slice none 0 0) := (blk_cell BK234.out 1).trans rfl; have hfz25_0 := blk_frozen BK234.out 0; have hfz25_1 := blk_frozen BK234.out 1; have hcz26_0 : w20.cell? ⟨gb232, 0, none⟩ = some (.string t224) := (blk_cell BK232.out 0).trans rfl; have hcz26_1 : w20.cell? ⟨gb232, 1, none⟩ = some (.slice Ao15 t225.length co15) := (blk_cell BK232.out 1).trans rfl; have hfz26_0 := blk_frozen BK232.out 0; have hfz26_1 := blk_frozen BK232.out 1))
 go_loopg [33] k (fun kq v33 w' => ∃ (x33_1 : Int) (x235001_1 : List (S48)) (u235001 : Value), v33 = .int .i64 x33_1 ∧ Aside0 (precinctlaw12_GraphNames.l0 kq a1 t225 (t225.length : Int) x33_1 t224 t225 t224 x235001_1 = some r) ∧ Aside0 (kq ≤ k) ∧ Aside0 (Kd.S k48 48 w' w.heap.size (fun k_ => some k_ ≠ (u235001 : Value).ownBlock) (.slice Ao15 t225.length co15) t225) ∧ Aside0 (Kd.S k48 48 w' w.heap.size (fun k_ => some k_ ≠ (u235001 : Value).ownBlock) (.slice Ao15 t225.length co15) t225) ∧ Aside0 (Kd.S k125 125 w' w.heap.size (fun _ => True) (.slice Ao19 t229.length co19) t229) ∧ Aside0 (Kd.S k48 48 w' w.heap.size (fun k_ => some k_ ≠ ((.slice Ao15 t225.length co15) : Value).ownBlock ∧ some k_ ≠ ((.slice Ao15 t225.length co15) : Value).ownBlock) u235001 x235001_1) ∧ Aside0 (w'.heap[gb222]? = some (.cells #[.string a0_0, (.slice A0_1 l0_1.length c0_1)] 24 (0, 0))) ∧ Aside0 (w'.heap[gb223]? = some (.cells #[.int .i64 a1] 3 (0, 0))) ∧ Aside0 (w'.heap[gb232]? = some (.cells #[.string t224, (.slice Ao15 t225.length co15)] 27 (0, 0))) ∧ Aside0 (w'.heap[gb233]? = some (.cells #[.string t228, (.slice Ao19 t229.length co19)] 30 (0, 0))) ∧ Aside0 (w'.heap[gb234]? = some (.cells #[.string t224, u235001] 27 (0, 0))) ∧ Aside0 (Below w.heap.size w w'))
 case atStart => exact ⟨(0), (([] : List (S48))), (.slice none 0 0), (by first | rfl | (simp; done) | (simp [*]; done)), H', ⟨Nat.le_refl _⟩, ⟨by (with_reducible repeat (first | apply Kd.S_alloc | apply Kd.S_drewN | apply Kd.S_drew)); exact Kd.S_mono (Kd.S_far (p := ⟨gb234, 1, none⟩) (Kd.S_far (p := ⟨gb234, 0, none⟩) (Kd.S_types HO227.out BK234.out (by decide)) (fun _ hk => hk.2) (.string t224)) (fun _ hk => hk.2) (.slice none 0 0)) (fun _ hk => (by simp [Value.ownBlock]))⟩, ⟨by (with_reducible repeat (first | apply Kd.S_alloc | apply Kd.S_drewN | apply Kd.S_drew)); exact Kd.S_mono (Kd.S_far (p := ⟨gb234, 1, none⟩) (Kd.S_far (p := ⟨gb234, 0, none⟩) (Kd.S_types HO227.out BK234.out (by decide)) (fun _ hk => hk.2) (.string t224)) (fun _ hk => hk.2) (.slice none 0 0)) (fun _ hk => (by simp [Value.ownBlock]))⟩, ⟨by (with_reducible repeat (first | apply Kd.S_alloc | apply Kd.S_drewN | apply Kd.S_drew)); exact Kd.S_mono (Kd.S_far (p := ⟨gb234, 1, none⟩) (Kd.S_far (p := ⟨gb234, 0, none⟩) (Kd.S_types HO231.out BK234.out (by decide)) (fun _ hk => hk.2) (.string t224)) (fun _ hk => hk.2) (.slice none 0 0)) (fun _ hk => trivial)⟩, ⟨by first | exact Kd.S_nil _ _ _ _ _ | exact Kd.N_nil _ _ _ _ _ | exact Kd.V_nil _ _ _ _ _ | exact Kd.Q_nil _ _ _ _ _ | exact Kd.R_nil _ _ _ _ _⟩, ⟨by (with_reducible repeat (first | refine blk_drewN ?_ _ | refine blk_drew ?_ | refine blk_alloc ?_ _)); refine blk_far ?_ NB222_234.out _; (with_reducible repeat (first | refine blk_drewN ?_ _ | refine blk_drew ?_ | refine blk_alloc ?_ _)); refine blk_far ?_ NB222_234.out _; (with_reducible repeat (first | refine blk_drewN ?_ _ | refine blk_drew ?_ | refine blk_alloc ?_ _)); exact BK222.out⟩, ⟨by (with_reducible repeat (first | refine blk_drewN ?_ _ | refine blk_drew ?_ | refine blk_alloc ?_ _)); refine blk_far ?_ NB223_234.out _; (with_reducible repeat (first | refine blk_drewN ?_ _ | refine blk_drew ?_ | refine blk_alloc ?_ _)); refine blk_far ?_ NB223_234.out _; (with_reducible repeat (first | refine blk_drewN ?_ _ | refine blk_drew ?_ | refine blk_alloc ?_ _)); exact BK223.out⟩, ⟨by (with_reducible repeat (first | refine blk_drewN ?_ _ | refine blk_drew ?_ | refine blk_alloc ?_ _)); refine blk_far ?_ NB232_234.out _; (with_reducible repeat (first | refine blk_drewN ?_ _ | refine blk_drew ?_ | refine blk_alloc ?_ _)); refine blk_far ?_ NB232_234.out _; (with_reducible repeat (first | refine blk_drewN ?_ _ | refine blk_drew ?_ | refine blk_alloc ?_ _)); exact BK232.out⟩, ⟨by (with_reducible repeat (first | refine blk_drewN ?_ _ | refine blk_drew ?_ | refine blk_alloc ?_ _)); refine blk_far ?_ NB233_234.out _; (with_reducible repeat (first | refine blk_drewN ?_ _ | refine blk_drew ?_ | refine blk_alloc ?_ _)); refine blk_far ?_ NB233_234.out _; (with_reducible repeat (first | refine blk_drewN ?_ _ | refine blk_drew ?_ | refine blk_alloc ?_ _)); exact BK233.out⟩, ⟨by (with_reducible repeat (first | refine blk_drewN ?_ _ | refine blk_drew ?_ | refine blk_alloc ?_ _)); refine blk_put (cs := #[.string t224, .slice none 0 0]) ?_ 1 _ rfl; (with_reducible repeat (first | refine blk_drewN ?_ _ | refine blk_drew ?_ | refine blk_alloc ?_ _)); refine blk_put (cs := #[.string (⟨#[]⟩ : ByteArray), .slice none 0 0]) ?_ 0 _ rfl; (with_reducible repeat (first | refine blk_drewN ?_ _ | refine blk_drew ?_ | refine blk_alloc ?_ _)); exact BK234.out⟩, ⟨bb⟩⟩
 case round =>
  clear H'
  try clear c1
  try clear c2
  try clear p2
  try clear c5
  try clear c6
  try clear c11
  try clear c12
  try clear c13
  try clear c14
  try clear c16
  try clear c17
  try clear c21
  try clear c22
  try clear c23
  try clear c24
  try clear hcz14_0
  try clear hcz14_1
  try clear hcz18_0
  try clear hcz18_1
  try clear hcz25_0
  try clear hcz25_1
  try clear hcz26_0
  try clear hcz26_1
  try clear hcz7_0
  try clear hcz7_1
  try clear hfz14_0
  try clear hfz14_1
  try clear hfz18_0
  try clear hfz18_1
  try clear hfz25_0
  try clear hfz25_1
  try clear hfz26_0
  try clear hfz26_1
  try clear hfz7_0
  try clear hfz7_1
  obtain ⟨x33_1, x235001_1, u235001, rfl, HA, HK1, HO_31, HO_233001, HO_234001, HO_235001, BK222, BK223, BK232, BK233, BK234, HB⟩ := hrel
  cases gk with
  | zero => exact absurd HA.out (by simp [precinctlaw12_GraphNames.l0])
  | succ k1 =>
   have H := HA.out
   clear HA
   simp only [precinctlaw12_GraphNames.l0] at H
   by_cases c27 : x33_1 < (t225.length : Int)
   ·rw [if_pos c27] at H
    have c27b0 : decide (x33_1 < (t225.length : Int)) = true := decide_eq_true c27
    clear c27
    by_cases c28 : 0 ≤ x33_1
    ·rw [if_pos c28] at H
     have c28b0 : decide (0 ≤ x33_1) = true := decide_eq_true c28
     clear c28
     by_cases c29 : x33_1 < (t225.length : Int)
     ·rw [if_pos c29] at H
      have c29b0 : decide (x33_1 < (t225.length : Int)) = true := decide_eq_true c29
      clear c29
      replace H := Option.bind_eq_some_iff.mp H
      obtain ⟨t237, A300, H⟩ := H
      replace H : (precinctlaw12_GraphNames.l1 k1 a1 (([] : List ByteArray)) t225 (t225.length : Int) x33_1 ((rd_T48 t225 x33_1).f1) (((rd_T48 t225 x33_1).f1).length : Int) 0 t224 t225 t224 x235001_1 t237 ((rd_T48 t225 x33_1).f1) ((rd_T48 t225 x33_1).f2) ((rd_T48 t225 x33_1).f3) ((rd_T48 t225 x33_1).f4) ((rd_T48 t225 x33_1).f5)) = some r := H
      have A30 := Aside0.mk A300
      clear A300
      obtain ⟨y238, hy238⟩ : ∃ y_ : List ByteArray, y_ = (([] : List ByteArray)) := ⟨_, rfl⟩
      replace H : (precinctlaw12_GraphNames.l1 k1 a1 y238 t225 (t225.length : Int) x33_1 ((rd_T48 t225 x33_1).f1) (((rd_T48 t225 x33_1).f1).length : Int) 0 t224 t225 t224 x235001_1 t237 ((rd_T48 t225 x33_1).f1) ((rd_T48 t225 x33_1).f2) ((rd_T48 t225 x33_1).f3) ((rd_T48 t225 x33_1).f4) ((rd_T48 t225 x33_1).f5)) = some r := by first | (rw [hy238]; with_reducible exact H) | (have H2_ := (Option.bind_some _ _).symm.trans H; rw [hy238]; with_reducible exact H2_) | (have H2_ := (Option.bind_some _ _).symm.trans H; with_reducible exact H2_) | with_reducible exact H | (rw [hy238]; exact H) | exact H
      have Ny238 := Aside0.mk hy238
      clear hy238
      have H' := Aside0.mk H
      clear H
      have p235 : 0 ≤ (x33_1 : Int) := of_decide_eq_true (by first | (with_reducible assumption) | assumption)
      have q235 : x33_1 < (t225.length : Int) := of_decide_eq_true (by first | (with_reducible assumption) | assumption)
      obtain ⟨ad235, A235_1, c235_1, e235, hx235_0, hx235_1, hx235_2, hx235_3, hx235_4, hx235_5, hl235_1, hi235_1⟩ := at_T48 (Kd.S_reads' HO_31.out).2.2 x33_1 p235 q235
      cases e235
      obtain ⟨ce235, hce235, hMe235, hcc235⟩ := Kd.S_get HO_31.out z48 x33_1 p235 (by first | exact q235 | exact of_decide_eq_true (by first | (with_reducible assumption) | assumption) | (have e_ := (Kd.S_reads' HO_31.out).1; omega))
      obtain ⟨ve235_1, rfl, ge235_1⟩ := k48_openM hMe235
      have hv235_1 := hcc235 1 _ rfl
      rw [add_field _ _ 1 (by omega)] at hv235_1
      replace hv235_1 := Option.some.inj (hv235_1.symm.trans hx235_1)
      rw [hv235_1] at ge235_1
      have HL235_1 := Aside0.mk (show Kd.R Kd.string 9 _ _ _ _ ((rd_T48 t225 x33_1).f1) from ge235_1)
      clear hv235_1 ge235_1
      clear hcc235 hce235
      have HR235_1 := Aside0.mk hi235_1
      have HC235_1 := Aside0.mk hl235_1
      clear hi235_1 hl235_1
      replace p235 := eq_true p235
      replace q235 := eq_true q235
      go_wp2_with (first | ((with_reducible refine gate_dst (N := 10) rfl ?_); refine box_event ?hg (N := 10) ?hd (cs := #[.string (⟨#[]⟩ : ByteArray), .slice none 0 0, .int .i64 0, .int .i64 0, .int .i64 0, .string (⟨#[]⟩ : ByteArray)]) (t := 48) ?hr ?_; (case hd => rfl); (case hg => rfl); (case hr => first | (go_simp; done) | (go_simp; rfl)); intro gb236 hg w31 hbox hb; have n0_ := Aside0.mk (Kd.S_below (Kd.S_elderB (by (with_reducible repeat (first | apply Kd.S_alloc | apply Kd.S_drewN | apply Kd.S_drew)); exact HO_31.out) gb236 (Nat.le_of_eq hg.symm)) hb); have n1_ := Aside0.mk (Kd.S_below (Kd.S_elderB (by (with_reducible repeat (first | apply Kd.S_alloc | apply Kd.S_drewN | apply Kd.S_drew)); exact HO_233001.out) gb236 (Nat.le_of_eq hg.symm)) hb); have n2_ := Aside0.mk (Kd.S_below (by (with_reducible repeat (first | apply Kd.S_alloc | apply Kd.S_drewN | apply Kd.S_drew)); exact HO_234001.out) hb); have n3_ := Aside0.mk (Kd.S_below (Kd.S_elderB (by (with_reducible repeat (first | apply Kd.S_alloc | apply Kd.S_drewN | apply Kd.S_drew)); exact HO_235001.out) gb236 (Nat.le_of_eq hg.symm)) hb); have n4_ := Aside0.mk (Kd.R_below (kR HL235_1.out) hb); have n5_ := Aside0.mk (blk_below (rb BK222.out) hb); have n6_ := Aside0.mk (blk_below (rb BK223.out) hb); have n7_ := Aside0.mk (blk_below (rb BK232.out) hb); have n8_ := Aside0.mk (blk_below (rb BK233.out) hb); have n9_ := Aside0.mk (blk_below (rb BK234.out) hb); have n10_ := Aside0.mk (Kd.C_below (by repeat (first | (with_reducible exact HR235_1.out) | (with_reducible refine Kd.C_alloc ?_ _) | (with_reducible refine Kd.C_drewN ?_ _) | (with_reducible refine Kd.C_drew ?_) | exact HR235_1.out)) hb); have n11_ := Aside0.mk (below_step bb hb); have n12_ := Aside0.mk (hbox); have n13_ := Aside0.mk ((by rw [hg]; exact (below_size bb) : w.heap.size ≤ gb236)); have n14_ := Aside0.mk ((by rw [hg]; exact (below_size bb) : w.heap.size ≤ gb236)); have n15_ := Aside0.mk ((by rw [hg]; exact Nat.ne_of_lt (blk_lt (rb BK222.out)) : gb222 ≠ gb236)); have n16_ := Aside0.mk ((by rw [hg]; exact Nat.ne_of_gt (blk_lt (rb BK222.out)) : gb236 ≠ gb222)); have n17_ := Aside0.mk ((by rw [hg]; exact Nat.ne_of_lt (blk_lt (rb BK223.out)) : gb223 ≠ gb236)); have n18_ := Aside0.mk ((by rw [hg]; exact Nat.ne_of_gt (blk_lt (rb BK223.out)) : gb236 ≠ gb223)); have n19_ := Aside0.mk ((by rw [hg]; exact Nat.ne_of_lt (blk_lt (rb BK232.out)) : gb232 ≠ gb236)); have n20_ := Aside0.mk ((by rw [hg]; exact Nat.ne_of_gt (blk_lt (rb BK232.out)) : gb236 ≠ gb232)); have n21_ := Aside0.mk ((by rw [hg]; exact Nat.ne_of_lt (blk_lt (rb BK233.out)) : gb233 ≠ gb236)); have n22_ := Aside0.mk ((by rw [hg]; exact Nat.ne_of_gt (blk_lt (rb BK233.out)) : gb236 ≠ gb233)); have n23_ := Aside0.mk ((by rw [hg]; exact Nat.ne_of_lt (blk_lt (rb BK234.out)) : gb234 ≠ gb236)); have n24_ := Aside0.mk ((by rw [hg]; exact Nat.ne_of_gt (blk_lt (rb BK234.out)) : gb236 ≠ gb234)); clear HO_31; clear HO_233001; clear HO_234001; clear HO_235001; clear HL235_1; clear BK222; clear BK223; clear BK232; clear BK233; clear BK234; clear HR235_1; clear HB; have HO_31 := n0_; have HO_233001 := n1_; have HO_234001 := n2_; have HO_235001 := n3_; have HL235_1 := n4_; have BK222 := n5_; have BK223 := n6_; have BK232 := n7_; have BK233 := n8_; have BK234 := n9_; have HR235_1 := n10_; have HB := n11_; have BK236 := n12_; have GW236 := n13_; have GE236 := n14_; have NB222_236 := n15_; have NB236_222 := n16_; have NB223_236 := n17_; have NB236_223 := n18_; have NB232_236 := n19_; have NB236_232 := n20_; have NB233_236 := n21_; have NB236_233 := n22_; have NB234_236 := n23_; have NB236_234 := n24_; clear n0_ n1_ n2_ n3_ n4_ n5_ n6_ n7_ n8_ n9_ n10_ n11_ n12_ n13_ n14_ n15_ n16_ n17_ n18_ n19_ n20_ n21_ n22_ n23_ n24_; clear hb hbox hg; have hnb32 := NB236_222.out; have hnc32 := NB222_236.out; have hnb33 := NB236_223.out; have hnc33 := NB223_236.out; have hnb34 := NB236_232.out; have hnc34 := NB232_236.out; have hnb35 := NB236_233.out; have hnc35 := NB233_236.out; have hnb36 := NB236_234.out; have hnc36 := NB234_236.out; have hcz37_0 : w31.cell? ⟨gb236, 0, none⟩ = some (.string (⟨#[]⟩ : ByteArray)) := (blk_cell BK236.out 0).trans rfl; have hcz37_1 : w31.cell? ⟨gb236, 1, none⟩ = some (.slice none 0 0) := (blk_cell BK236.out 1).trans rfl; have hcz37_2 : w31.cell? ⟨gb236, 2, none⟩ = some (.int .i64 0) := (blk_cell BK236.out 2).trans rfl; have hcz37_3 : w31.cell? ⟨gb236, 3, none⟩ = some (.int .i64 0) := (blk_cell BK236.out 3).trans rfl; have hcz37_4 : w31.cell? ⟨gb236, 4, none⟩ = some (.int .i64 0) := (blk_cell BK236.out 4).trans rfl; have hcz37_5 : w31.cell? ⟨gb236, 5, none⟩ = some (.string (⟨#[]⟩ : ByteArray)) := (blk_cell BK236.out 5).trans rfl; have hfz37_0 := blk_frozen BK236.out 0; have hfz37_1 := blk_frozen BK236.out 1; have hfz37_2 := blk_frozen BK236.out 2; have hfz37_3 := blk_frozen BK236.out 3; have hfz37_4 := blk_frozen BK236.out 4; have hfz37_5 := blk_frozen BK236.out 5) | (go_at_call 20; (with_reducible refine (Tn.turn.calls ((rd_T48 t225 x33_1).f0) a1 t237 _ (by repeat (first | exact BK223.out | refine blk_far ?_ (by first | exact NB223_222.out | exact NB223_232.out | exact NB223_233.out | exact NB223_234.out | exact NB223_236.out) _)) A30.out).mono ?_); rintro e w38 ⟨rfl, hb⟩; have n0_ := Aside0.mk (Kd.S_below (by (with_reducible repeat (first | apply Kd.S_alloc | apply Kd.S_drewN | apply Kd.S_drew)); exact (Kd.S_mono (Kd.S_far (p := ⟨gb236, 5, none⟩) (Kd.S_far (p := ⟨gb236, 4, none⟩) (Kd.S_far (p := ⟨gb236, 3, none⟩) (Kd.S_far (p := ⟨gb236, 2, none⟩) (Kd.S_far (p := ⟨gb236, 1, none⟩) (Kd.S_far (p := ⟨gb236, 0, none⟩) (Kd.S_mono HO_31.out (fun k_ hk => (⟨hk, hk.2⟩ : _ ∧ k_ ≠ gb236))) (fun _ hk => hk.2) (.string ((rd_T48 t225 x33_1).f0))) (fun _ hk => hk.2) (.slice A235_1 ((rd_T48 t225 x33_1).f1).length c235_1)) (fun _ hk => hk.2) (.int .i64 ((rd_T48 t225 x33_1).f2))) (fun _ hk => hk.2) (.int .i64 ((rd_T48 t225 x33_1).f3))) (fun _ hk => hk.2) (.int .i64 ((rd_T48 t225 x33_1).f4))) (fun _ hk => hk.2) (.string ((rd_T48 t225 x33_1).f5))) (fun _ h_ => h_.1))) hb); have n1_ := Aside0.mk (Kd.S_below (by (with_reducible repeat (first | apply Kd.S_alloc | apply Kd.S_drewN | apply Kd.S_drew)); exact (Kd.S_mono (Kd.S_far (p := ⟨gb236, 5, none⟩) (Kd.S_far (p := ⟨gb236, 4, none⟩) (Kd.S_far (p := ⟨gb236, 3, none⟩) (Kd.S_far (p := ⟨gb236, 2, none⟩) (Kd.S_far (p := ⟨gb236, 1, none⟩) (Kd.S_far (p := ⟨gb236, 0, none⟩) (Kd.S_mono HO_233001.out (fun k_ hk => (⟨hk, hk.2⟩ : _ ∧ k_ ≠ gb236))) (fun _ hk => hk.2) (.string ((rd_T48 t225 x33_1).f0))) (fun _ hk => hk.2) (.slice A235_1 ((rd_T48 t225 x33_1).f1).length c235_1)) (fun _ hk => hk.2) (.int .i64 ((rd_T48 t225 x33_1).f2))) (fun _ hk => hk.2) (.int .i64 ((rd_T48 t225 x33_1).f3))) (fun _ hk => hk.2) (.int .i64 ((rd_T48 t225 x33_1).f4))) (fun _ hk => hk.2) (.string ((rd_T48 t225 x33_1).f5))) (fun _ h_ => h_.1))) hb); have n2_ := Aside0.mk (Kd.S_below (by (with_reducible repeat (first | apply Kd.S_alloc | apply Kd.S_drewN | apply Kd.S_drew)); exact (Kd.S_mono (Kd.S_far (p := ⟨gb236, 5, none⟩) (Kd.S_far (p := ⟨gb236, 4, none⟩) (Kd.S_far (p := ⟨gb236, 3, none⟩) (Kd.S_far (p := ⟨gb236, 2, none⟩) (Kd.S_far (p := ⟨gb236, 1, none⟩) (Kd.S_far (p := ⟨gb236, 0, none⟩) (Kd.S_types HO_234001.out BK236.out (by decide)) (fun _ hk => hk.2) (.string ((rd_T48 t225 x33_1).f0))) (fun _ hk => hk.2) (.slice A235_1 ((rd_T48 t225 x33_1).f1).length c235_1)) (fun _ hk => hk.2) (.int .i64 ((rd_T48 t225 x33_1).f2))) (fun _ hk => hk.2) (.int .i64 ((rd_T48 t225 x33_1).f3))) (fun _ hk => hk.2) (.int .i64 ((rd_T48 t225 x33_1).f4))) (fun _ hk => hk.2) (.string ((rd_T48 t225 x33_1).f5))) (fun _ h_ => h_.1))) hb); have n3_ := Aside0.mk (Kd.S_below (by (with_reducible repeat (first | apply Kd.S_alloc | apply Kd.S_drewN | apply Kd.S_drew)); exact (Kd.S_mono (Kd.S_far (p := ⟨gb236, 5, none⟩) (Kd.S_far (p := ⟨gb236, 4, none⟩) (Kd.S_far (p := ⟨gb236, 3, none⟩) (Kd.S_far (p := ⟨gb236, 2, none⟩) (Kd.S_far (p := ⟨gb236, 1, none⟩) (Kd.S_far (p := ⟨gb236, 0, none⟩) (Kd.S_mono HO_235001.out (fun k_ hk => (⟨hk, hk.2⟩ : _ ∧ k_ ≠ gb236))) (fun _ hk => hk.2) (.string ((rd_T48 t225 x33_1).f0))) (fun _ hk => hk.2) (.slice A235_1 ((rd_T48 t225 x33_1).f1).length c235_1)) (fun _ hk => hk.2) (.int .i64 ((rd_T48 t225 x33_1).f2))) (fun _ hk => hk.2) (.int .i64 ((rd_T48 t225 x33_1).f3))) (fun _ hk => hk.2) (.int .i64 ((rd_T48 t225 x33_1).f4))) (fun _ hk => hk.2) (.string ((rd_T48 t225 x33_1).f5))) (fun _ h_ => h_.1))) hb); have n4_ := Aside0.mk (Kd.R_below (kR ((Kd.R_mono (Kd.R_far (p := ⟨gb236, 5, none⟩) (Kd.R_far (p := ⟨gb236, 4, none⟩) (Kd.R_far (p := ⟨gb236, 3, none⟩) (Kd.R_far (p := ⟨gb236, 2, none⟩) (Kd.R_far (p := ⟨gb236, 1, none⟩) (Kd.R_far (p := ⟨gb236, 0, none⟩) (Kd.R_types HL235_1.out BK236.out (by decide)) (fun _ hk => hk.2) (.string ((rd_T48 t225 x33_1).f0))) (fun _ hk => hk.2) (.slice A235_1 ((rd_T48 t225 x33_1).f1).length c235_1)) (fun _ hk => hk.2) (.int .i64 ((rd_T48 t225 x33_1).f2))) (fun _ hk => hk.2) (.int .i64 ((rd_T48 t225 x33_1).f3))) (fun _ hk => hk.2) (.int .i64 ((rd_T48 t225 x33_1).f4))) (fun _ hk => hk.2) (.string ((rd_T48 t225 x33_1).f5))) (fun _ h_ => h_.1)))) hb); have n5_ := Aside0.mk (blk_below (rb (blk_far (rb (blk_far (rb (blk_far (rb (blk_far (rb (blk_far (rb (blk_far (rb BK222.out) NB222_236.out _)) NB222_236.out _)) NB222_236.out _)) NB222_236.out _)) NB222_236.out _)) NB222_236.out _)) hb); have n6_ := Aside0.mk (blk_below (rb (blk_far (rb (blk_far (rb (blk_far (rb (blk_far (rb (blk_far (rb (blk_far (rb BK223.out) NB223_236.out _)) NB223_236.out _)) NB223_236.out _)) NB223_236.out _)) NB223_236.out _)) NB223_236.out _)) hb); have n7_ := Aside0.mk (blk_below (rb (blk_far (rb (blk_far (rb (blk_far (rb (blk_far (rb (blk_far (rb (blk_far (rb BK232.out) NB232_236.out _)) NB232_236.out _)) NB232_236.out _)) NB232_236.out _)) NB232_236.out _)) NB232_236.out _)) hb); have n8_ := Aside0.mk (blk_below (rb (blk_far (rb (blk_far (rb (blk_far (rb (blk_far (rb (blk_far (rb (blk_far (rb BK233.out) NB233_236.out _)) NB233_236.out _)) NB233_236.out _)) NB233_236.out _)) NB233_236.out _)) NB233_236.out _)) hb); have n9_ := Aside0.mk (blk_below (rb (blk_far (rb (blk_far (rb (blk_far (rb (blk_far (rb (blk_far (rb (blk_far (rb BK234.out) NB234_236.out _)) NB234_236.out _)) NB234_236.out _)) NB234_236.out _)) NB234_236.out _)) NB234_236.out _)) hb); have n10_ := Aside0.mk (Kd.C_below ((Kd.R_reads' (kR ((Kd.R_mono (Kd.R_far (p := ⟨gb236, 5, none⟩) (Kd.R_far (p := ⟨gb236, 4, none⟩) (Kd.R_far (p := ⟨gb236, 3, none⟩) (Kd.R_far (p := ⟨gb236, 2, none⟩) (Kd.R_far (p := ⟨gb236, 1, none⟩) (Kd.R_far (p := ⟨gb236, 0, none⟩) (Kd.R_types HL235_1.out BK236.out (by decide)) (fun _ hk => hk.2) (.string ((rd_T48 t225 x33_1).f0))) (fun _ hk => hk.2) (.slice A235_1 ((rd_T48 t225 x33_1).f1).length c235_1)) (fun _ hk => hk.2) (.int .i64 ((rd_T48 t225 x33_1).f2))) (fun _ hk => hk.2) (.int .i64 ((rd_T48 t225 x33_1).f3))) (fun _ hk => hk.2) (.int .i64 ((rd_T48 t225 x33_1).f4))) (fun _ hk => hk.2) (.string ((rd_T48 t225 x33_1).f5))) (fun _ h_ => h_.1))))).2.2) hb); have n11_ := Aside0.mk (blk_below (rb (blk_put (cs := #[.string ((rd_T48 t225 x33_1).f0), .slice A235_1 ((rd_T48 t225 x33_1).f1).length c235_1, .int .i64 ((rd_T48 t225 x33_1).f2), .int .i64 ((rd_T48 t225 x33_1).f3), .int .i64 ((rd_T48 t225 x33_1).f4), .string (⟨#[]⟩ : ByteArray)]) (rb (blk_put (cs := #[.string ((rd_T48 t225 x33_1).f0), .slice A235_1 ((rd_T48 t225 x33_1).f1).length c235_1, .int .i64 ((rd_T48 t225 x33_1).f2), .int .i64 ((rd_T48 t225 x33_1).f3), .int .i64 0, .string (⟨#[]⟩ : ByteArray)]) (rb (blk_put (cs := #[.string ((rd_T48 t225 x33_1).f0), .slice A235_1 ((rd_T48 t225 x33_1).f1).length c235_1, .int .i64 ((rd_T48 t225 x33_1).f2), .int .i64 0, .int .i64 0, .string (⟨#[]⟩ : ByteArray)]) (rb (blk_put (cs := #[.string ((rd_T48 t225 x33_1).f0), .slice A235_1 ((rd_T48 t225 x33_1).f1).length c235_1, .int .i64 0, .int .i64 0, .int .i64 0, .string (⟨#[]⟩ : ByteArray)]) (rb (blk_put (cs := #[.string ((rd_T48 t225 x33_1).f0), .slice none 0 0, .int .i64 0, .int .i64 0, .int .i64 0, .string (⟨#[]⟩ : ByteArray)]) (rb (blk_put (cs := #[.string (⟨#[]⟩ : ByteArray), .slice none 0 0, .int .i64 0, .int .i64 0, .int .i64 0, .string (⟨#[]⟩ : ByteArray)]) (rb BK236.out) 0 _ rfl)) 1 _ rfl)) 2 _ rfl)) 3 _ rfl)) 4 _ rfl)) 5 _ rfl)) hb); have n12_ := Aside0.mk (below_step bb hb); clear HO_31; clear HO_233001; clear HO_234001; clear HO_235001; clear HL235_1; clear BK222; clear BK223; clear BK232; clear BK233; clear BK234; clear HR235_1; clear BK236; clear HB; have HO_31 := n0_; have HO_233001 := n1_; have HO_234001 := n2_; have HO_235001 := n3_; have HL235_1 := n4_; have BK222 := n5_; have BK223 := n6_; have BK232 := n7_; have BK233 := n8_; have BK234 := n9_; have HR235_1 := n10_; have BK236 := n11_; have HB := n12_; clear n0_ n1_ n2_ n3_ n4_ n5_ n6_ n7_ n8_ n9_ n10_ n11_ n12_; (try clear hb); (try clear hb2); (try clear hk); (try clear hi); have hcz39_0 : w38.cell? ⟨gb236, 0, none⟩ = some (.string ((rd_T48 t225 x33_1).f0)) := (blk_cell BK236.out 0).trans rfl; have hcz39_1 : w38.cell? ⟨gb236, 1, none⟩ = some (.slice A235_1 ((rd_T48 t225 x33_1).f1).length c235_1) := (blk_cell BK236.out 1).trans rfl; have hcz39_2 : w38.cell? ⟨gb236, 2, none⟩ = some (.int .i64 ((rd_T48 t225 x33_1).f2)) := (blk_cell BK236.out 2).trans rfl; have hcz39_3 : w38.cell? ⟨gb236, 3, none⟩ = some (.int .i64 ((rd_T48 t225 x33_1).f3)) := (blk_cell BK236.out 3).trans rfl; have hcz39_4 : w38.cell? ⟨gb236, 4, none⟩ = some (.int .i64 ((rd_T48 t225 x33_1).f4)) := (blk_cell BK236.out 4).trans rfl; have hcz39_5 : w38.cell? ⟨gb236, 5, none⟩ = some (.string ((rd_T48 t225 x33_1).f5)) := (blk_cell BK236.out 5).trans rfl; have hfz39_0 := blk_frozen BK236.out 0; have hfz39_1 := blk_frozen BK236.out 1; have hfz39_2 := blk_frozen BK236.out 2; have hfz39_3 := blk_frozen BK236.out 3; have hfz39_4 := blk_frozen BK236.out 4; have hfz39_5 := blk_frozen BK236.out 5) | ((with_reducible refine gate_dst (N := 42) rfl ?_); refine Kd.R_lit Kd.string _ 9 ?hg (N := 42) ?hd (xs := ([] : List ByteArray)) (inner := []) (ok := fun _ => True) (okp := fun _ => True) ?hr ?hp (fun _ hk => hk) trivial (Below.refl _ _) (Nat.le_refl _) (by simp) ?_; (case hd => rfl); (case hg => rfl); (case hr => first | (go_simp; done) | (go_simp; rfl)); (case hp => exact (Reps.none _ _)); intro v239 w40 ho41 hb hg_ hnew_; clear hg_ hnew_; (first | rw [← Ny238.out] at ho41 | (simp only [Int.reduceToNat] at ho41; rw [← Ny238.out] at ho41)); have n0_ := Aside0.mk (Kd.S_elder' (by (with_reducible repeat (first | apply Kd.S_alloc | apply Kd.S_drewN | apply Kd.S_drew)); exact (Kd.S_mono (Kd.S_far (p := ⟨gb236, 0, none⟩) (Kd.S_mono HO_31.out (fun k_ hk => (⟨hk, hk.2⟩ : _ ∧ k_ ≠ gb236))) (fun _ hk => hk.2) (.string t237)) (fun _ h_ => h_.1))) (Kd.R_base ho41) hb); have n1_ := Aside0.mk (Kd.S_elder' (by (with_reducible repeat (first | apply Kd.S_alloc | apply Kd.S_drewN | apply Kd.S_drew)); exact (Kd.S_mono (Kd.S_far (p := ⟨gb236, 0, none⟩) (Kd.S_mono HO_233001.out (fun k_ hk => (⟨hk, hk.2⟩ : _ ∧ k_ ≠ gb236))) (fun _ hk => hk.2) (.string t237)) (fun _ h_ => h_.1))) (Kd.R_base ho41) hb); have n2_ := Aside0.mk (Kd.S_elder' (by (with_reducible repeat (first | apply Kd.S_alloc | apply Kd.S_drewN | apply Kd.S_drew)); exact (Kd.S_mono (Kd.S_far (p := ⟨gb236, 0, none⟩) (Kd.S_types HO_234001.out BK236.out (by decide)) (fun _ hk => hk.2) (.string t237)) (fun _ h_ => h_.1))) (Kd.R_base ho41) hb); have n3_ := Aside0.mk (Kd.S_elder' (by (with_reducible repeat (first | apply Kd.S_alloc | apply Kd.S_drewN | apply Kd.S_drew)); exact (Kd.S_mono (Kd.S_far (p := ⟨gb236, 0, none⟩) (Kd.S_mono HO_235001.out (fun k_ hk => (⟨hk, hk.2⟩ : _ ∧ k_ ≠ gb236))) (fun _ hk => hk.2) (.string t237)) (fun _ h_ => h_.1))) (Kd.R_base ho41) hb); have n4_ := Aside0.mk (Kd.R_elder' (kR ((Kd.R_mono (Kd.R_far (p := ⟨gb236, 0, none⟩) (Kd.R_types HL235_1.out BK236.out (by decide)) (fun _ hk => hk.2) (.string t237)) (fun _ h_ => h_.1)))) (Kd.R_base ho41) hb); have n5_ := Aside0.mk (Kd.R_lower (Kd.R_new' ho41 (Kd.R_lt (kR ((Kd.R_mono (Kd.R_far (p := ⟨gb236, 0, none⟩) (Kd.R_types HL235_1.out BK236.out (by decide)) (fun _ hk => hk.2) (.string t237)) (fun _ h_ => h_.1)))))) (below_size bb)); have n6_ := Aside0.mk (blk_below (rb (blk_far (rb BK222.out) NB222_236.out _)) hb); have n7_ := Aside0.mk (blk_below (rb (blk_far (rb BK223.out) NB223_236.out _)) hb); have n8_ := Aside0.mk (blk_below (rb (blk_far (rb BK232.out) NB232_236.out _)) hb); have n9_ := Aside0.mk (blk_below (rb (blk_far (rb BK233.out) NB233_236.out _)) hb); have n10_ := Aside0.mk (blk_below (rb (blk_far (rb BK234.out) NB234_236.out _)) hb); have n11_ := Aside0.mk (Kd.C_below ((Kd.R_reads' (kR ((Kd.R_mono (Kd.R_far (p := ⟨gb236, 0, none⟩) (Kd.R_types HL235_1.out BK236.out (by decide)) (fun _ hk => hk.2) (.string t237)) (fun _ h_ => h_.1))))).2.2) hb); have n12_ := Aside0.mk (blk_below (rb (blk_put (cs := #[.string ((rd_T48 t225 x33_1).f0), .slice A235_1 ((rd_T48 t225 x33_1).f1).length c235_1, .int .i64 ((rd_T48 t225 x33_1).f2), .int .i64 ((rd_T48 t225 x33_1).f3), .int .i64 ((rd_T48 t225 x33_1).f4), .string ((rd_T48 t225 x33_1).f5)]) (rb BK236.out) 0 _ rfl)) hb); have n13_ := Aside0.mk (below_step bb hb); clear HO_31; clear HO_233001; clear HO_234001; clear HO_235001; clear HL235_1; clear BK222; clear BK223; clear BK232; clear BK233; clear BK234; clear HR235_1; clear BK236; clear HB; have HO_31 := n0_; have HO_233001 := n1_; have HO_234001 := n2_; have HO_235001 := n3_; have HL235_1 := n4_; have HO240 := n5_; have BK222 := n6_; have BK223 := n7_; have BK232 := n8_; have BK233 := n9_; have BK234 := n10_; have HR235_1 := n11_; have BK236 := n12_; have HB := n13_; clear n0_ n1_ n2_ n3_ n4_ n5_ n6_ n7_ n8_ n9_ n10_ n11_ n12_ n13_; clear hb ho41; have hcz42_0 : w40.cell? ⟨gb236, 0, none⟩ = some (.string t237) := (blk_cell BK236.out 0).trans rfl; have hcz42_1 : w40.cell? ⟨gb236, 1, none⟩ = some (.slice A235_1 ((rd_T48 t225 x33_1).f1).length c235_1) := (blk_cell BK236.out 1).trans rfl; have hcz42_2 : w40.cell? ⟨gb236, 2, none⟩ = some (.int .i64 ((rd_T48 t225 x33_1).f2)) := (blk_cell BK236.out 2).trans rfl; have hcz42_3 : w40.cell? ⟨gb236, 3, none⟩ = some (.int .i64 ((rd_T48 t225 x33_1).f3)) := (blk_cell BK236.out 3).trans rfl; have hcz42_4 : w40.cell? ⟨gb236, 4, none⟩ = some (.int .i64 ((rd_T48 t225 x33_1).f4)) := (blk_cell BK236.out 4).trans rfl; have hcz42_5 : w40.cell? ⟨gb236, 5, none⟩ = some (.string ((rd_T48 t225 x33_1).f5)) := (blk_cell BK236.out 5).trans rfl; have hfz42_0 := blk_frozen BK236.out 0; have hfz42_1 := blk_frozen BK236.out 1; have hfz42_2 := blk_frozen BK236.out 2; have hfz42_3 := blk_frozen BK236.out 3; have hfz42_4 := blk_frozen BK236.out 4; have hfz42_5 := blk_frozen BK236.out 5))
      go_loopg [11, 46] k1 (fun kq v11 v46 w' => ∃ (x11_2 : List ByteArray) (x46_2 : Int), v46 = .int .i64 x46_2 ∧ Aside0 (precinctlaw12_GraphNames.l1 kq a1 x11_2 t225 (t225.length : Int) x33_1 ((rd_T48 t225 x33_1).f1) (((rd_T48 t225 x33_1).f1).length : Int) x46_2 t224 t225 t224 x235001_1 t237 ((rd_T48 t225 x33_1).f1) ((rd_T48 t225 x33_1).f2) ((rd_T48 t225 x33_1).f3) ((rd_T48 t225 x33_1).f4) ((rd_T48 t225 x33_1).f5) = some r) ∧ Aside0 (kq ≤ k1) ∧ Aside0 (Kd.R Kd.string 9 w' w.heap.size (fun _ => True) v11 x11_2) ∧ Aside0 (Kd.S k48 48 w' w.heap.size (fun k_ => some k_ ≠ (v11 : Value).ownBlock ∧ some k_ ≠ (u235001 : Value).ownBlock ∧ k_ ≠ gb236) (.slice (some ad235) t225.length co15) t225) ∧ Aside0 (Kd.S k48 48 w' w.heap.size (fun k_ => some k_ ≠ (v11 : Value).ownBlock ∧ some k_ ≠ (u235001 : Value).ownBlock ∧ k_ ≠ gb236) (.slice (some ad235) t225.length co15) t225) ∧ Aside0 (Kd.S k125 125 w' w.heap.size (fun k_ => some k_ ≠ (v11 : Value).ownBlock) (.slice Ao19 t229.length co19) t229) ∧ Aside0 (Kd.S k48 48 w' w.heap.size (fun k_ => some k_ ≠ (v11 : Value).ownBlock ∧ some k_ ≠ ((.slice (some ad235) t225.length co15) : Value).ownBlock ∧ some k_ ≠ ((.slice (some ad235) t225.length co15) : Value).ownBlock ∧ k_ ≠ gb236) u235001 x235001_1) ∧ Aside0 (w'.heap[gb222]? = some (.cells #[.string a0_0, (.slice A0_1 l0_1.length c0_1)] 24 (0, 0))) ∧ Aside0 (w'.heap[gb223]? = some (.cells #[.int .i64 a1] 3 (0, 0))) ∧ Aside0 (w'.heap[gb232]? = some (.cells #[.string t224, (.slice (some ad235) t225.length co15)] 27 (0, 0))) ∧ Aside0 (w'.heap[gb233]? = some (.cells #[.string t228, (.slice Ao19 t229.length co19)] 30 (0, 0))) ∧ Aside0 (w'.heap[gb234]? = some (.cells #[.string t224, u235001] 27 (0, 0))) ∧ Aside0 (w'.heap[gb236]? = some (.cells #[.string t237, (.slice A235_1 ((rd_T48 t225 x33_1).f1).length c235_1), .int .i64 ((rd_T48 t225 x33_1).f2), .int .i64 ((rd_T48 t225 x33_1).f3), .int .i64 ((rd_T48 t225 x33_1).f4), .string ((rd_T48 t225 x33_1).f5)] 48 (0, 0))) ∧ Aside0 (Kd.R Kd.string 9 w' w.heap.size (fun k_ => some k_ ≠ (v11 : Value).ownBlock) (.slice A235_1 ((rd_T48 t225 x33_1).f1).length c235_1) ((rd_T48 t225 x33_1).f1)) ∧ Aside0 (Below w.heap.size w w'))
      case atStart => exact ⟨(y238), (0), (by first | rfl | (simp; done) | (simp [*]; done)), H', ⟨Nat.le_refl _⟩, ⟨kR (Kd.R_mono HO240.out (fun _ hk => trivial))⟩, ⟨by (with_reducible repeat (first | apply Kd.S_alloc | apply Kd.S_drewN | apply Kd.S_drew)); exact Kd.S_mono HO_31.out (fun _ hk => ⟨hk.2, ⟨hk.1.1, hk.1.2⟩⟩)⟩, ⟨by (with_reducible repeat (first | apply Kd.S_alloc | apply Kd.S_drewN | apply Kd.S_drew)); exact Kd.S_mono HO_233001.out (fun _ hk => ⟨hk.2, ⟨hk.1.1, hk.1.2⟩⟩)⟩, ⟨by (with_reducible repeat (first | apply Kd.S_alloc | apply Kd.S_drewN | apply Kd.S_drew)); exact Kd.S_mono HO_234001.out (fun _ hk => hk.2)⟩, ⟨by (with_reducible repeat (first | apply Kd.S_alloc | apply Kd.S_drewN | apply Kd.S_drew)); exact Kd.S_mono HO_235001.out (fun _ hk => ⟨hk.2, ⟨hk.1.1.1, ⟨hk.1.1.2, hk.1.2⟩⟩⟩)⟩, ⟨by (with_reducible repeat (first | refine blk_drewN ?_ _ | refine blk_drew ?_ | refine blk_alloc ?_ _)); exact BK222.out⟩, ⟨by (with_reducible repeat (first | refine blk_drewN ?_ _ | refine blk_drew ?_ | refine blk_alloc ?_ _)); exact BK223.out⟩, ⟨by (with_reducible repeat (first | refine blk_drewN ?_ _ | refine blk_drew ?_ | refine blk_alloc ?_ _)); exact BK232.out⟩, ⟨by (with_reducible repeat (first | refine blk_drewN ?_ _ | refine blk_drew ?_ | refine blk_alloc ?_ _)); exact BK233.out⟩, ⟨by (with_reducible repeat (first | refine blk_drewN ?_ _ | refine blk_drew ?_ | refine blk_alloc ?_ _)); exact BK234.out⟩, ⟨by (with_reducible repeat (first | refine blk_drewN ?_ _ | refine blk_drew ?_ | refine blk_alloc ?_ _)); exact BK236.out⟩, ⟨Kd.R_mono HL235_1.out (fun _ hk => hk.2)⟩, ⟨bb⟩⟩
      case round =>
       clear H'
       try clear c1
       try clear c2
       try clear p2
       try clear q2
       try clear hx2
       try clear c3
       try clear c5
       try clear c6
       try clear c11
       try clear c12
       try clear c13
       try clear c14
       try clear c16
       try clear c17
       try clear c20
       try clear c21
       try clear c22
       try clear c23
       try clear p23
       try clear q23
       try clear hx23
       try clear c24
       try clear c27
       try clear c27b0
       try clear c28
       try clear c28b0
       try clear c29
       try clear c29b0
       try clear c32
       try clear c33
       try clear c34
       try clear c35
       try clear c36
       try clear hcz14_0
       try clear hcz14_1
       try clear hcz18_0
       try clear hcz18_1
       try clear hcz25_0
       try clear hcz25_1
       try clear hcz26_0
       try clear hcz26_1
       try clear hcz37_0
       try clear hcz37_1
       try clear hcz37_2
       try clear hcz37_3
       try clear hcz37_4
       try clear hcz37_5
       try clear hcz39_0
       try clear hcz39_1
       try clear hcz39_2
       try clear hcz39_3
       try clear hcz39_4
       try clear hcz39_5
       try clear hcz42_0
       try clear hcz42_1
       try clear hcz42_2
       try clear hcz42_3
       try clear hcz42_4
       try clear hcz42_5
       try clear hcz7_0
       try clear hcz7_1
       try clear hfz14_0
       try clear hfz14_1
       try clear hfz18_0
       try clear hfz18_1
       try clear hfz25_0
       try clear hfz25_1
       try clear hfz26_0
       try clear hfz26_1
       try clear hfz37_0
       try clear hfz37_1
       try clear hfz37_2
       try clear hfz37_3
       try clear hfz37_4
       try clear hfz37_5
       try clear hfz39_0
       try clear hfz39_1
       try clear hfz39_2
       try clear hfz39_3
       try clear hfz39_4
       try clear hfz39_5
       try clear hfz42_0
       try clear hfz42_1
       try clear hfz42_2
       try clear hfz42_3
       try clear hfz42_4
       try clear hfz42_5
       try clear hfz7_0
       try clear hfz7_1
       try clear hx235_0
       try clear hx235_1
       try clear hx235_2
       try clear hx235_3
       try clear hx235_4
       try clear hx235_5
       try clear p2
       try clear p235
       try clear q235
       obtain ⟨x11_2, x46_2, rfl, HA, HK2, HO_11, HO_31, HO_233001, HO_234001, HO_235001, BK222, BK223, BK232, BK233, BK234, BK236, HLC, HB⟩ := hrel
       cases gk with
       | zero => exact absurd HA.out (by simp [precinctlaw12_GraphNames.l1])
       | succ k2 =>
        have H := HA.out
        clear HA
        simp only [precinctlaw12_GraphNames.l1] at H
        by_cases c43 : x46_2 < (((rd_T48 t225 x33_1).f1).length : Int)
        ·rw [if_pos c43] at H
         have c43b0 : decide (x46_2 < (((rd_T48 t225 x33_1).f1).length : Int)) = true := decide_eq_true c43
         clear c43
         by_cases c44 : 0 ≤ x46_2
         ·rw [if_pos c44] at H
          have c44b0 : decide (0 ≤ x46_2) = true := decide_eq_true c44
          clear c44
          by_cases c45 : x46_2 < (((rd_T48 t225 x33_1).f1).length : Int)
          ·rw [if_pos c45] at H
           have c45b0 : decide (x46_2 < (((rd_T48 t225 x33_1).f1).length : Int)) = true := decide_eq_true c45
           clear c45
           replace H := Option.bind_eq_some_iff.mp H
           obtain ⟨t242, A460, H⟩ := H
           replace H : (if x11_2.length < 8796093022208 then (precinctlaw12_GraphNames.l1 k2 a1 (x11_2 ++ [t242]) t225 (t225.length : Int) x33_1 ((rd_T48 t225 x33_1).f1) (((rd_T48 t225 x33_1).f1).length : Int) (wrap64 (x46_2 + 1)) t224 t225 t224 x235001_1 t237 ((rd_T48 t225 x33_1).f1) ((rd_T48 t225 x33_1).f2) ((rd_T48 t225 x33_1).f3) ((rd_T48 t225 x33_1).f4) ((rd_T48 t225 x33_1).f5)) else (none)) = some r := H
           have A46 := Aside0.mk A460
           clear A460
           by_cases c47 : x11_2.length < 8796093022208
           ·rw [if_pos c47] at H
            have LMc47 := Aside0.mk c47
            clear c47
            obtain ⟨y243, hy243⟩ : ∃ y_ : List ByteArray, y_ = (x11_2 ++ [t242]) := ⟨_, rfl⟩
            replace H : (precinctlaw12_GraphNames.l1 k2 a1 y243 t225 (t225.length : Int) x33_1 ((rd_T48 t225 x33_1).f1) (((rd_T48 t225 x33_1).f1).length : Int) (wrap64 (x46_2 + 1)) t224 t225 t224 x235001_1 t237 ((rd_T48 t225 x33_1).f1) ((rd_T48 t225 x33_1).f2) ((rd_T48 t225 x33_1).f3) ((rd_T48 t225 x33_1).f4) ((rd_T48 t225 x33_1).f5)) = some r := by first | (rw [hy243]; with_reducible exact H) | (have H2_ := (Option.bind_some _ _).symm.trans H; rw [hy243]; with_reducible exact H2_) | (have H2_ := (Option.bind_some _ _).symm.trans H; with_reducible exact H2_) | with_reducible exact H | (rw [hy243]; exact H) | exact H
            have Ny243 := Aside0.mk hy243
            clear hy243
            have H' := Aside0.mk H
            clear H
            have p241 : 0 ≤ (x46_2 : Int) := of_decide_eq_true (by first | (with_reducible assumption) | assumption)
            have q241 : x46_2 < (((rd_T48 t225 x33_1).f1).length : Int) := of_decide_eq_true (by first | (with_reducible assumption) | assumption)
            obtain ⟨ad241, e241, hx241_0⟩ := Kd.at_string (Kd.R_reads' HLC.out).2.2 x46_2 p241 q241
            cases e241
            skip
            replace p241 := eq_true p241
            replace q241 := eq_true q241
            go_wp2_with (first | (go_at_call 20; (with_reducible refine (Tn.turn.calls (rdOf ByteArray.empty ((rd_T48 t225 x33_1).f1) x46_2) a1 t242 _ (by repeat (first | exact BK223.out | refine blk_far ?_ (by first | exact NB223_222.out | exact NB223_232.out | exact NB223_233.out | exact NB223_234.out | exact NB223_236.out) _)) A46.out).mono ?_); rintro e w48 ⟨rfl, hb⟩; have nL := Aside0.mk (Kd.R_below (kR HLC.out) hb); clear HLC; have HLC := nL; clear nL; have n0_ := Aside0.mk (Kd.R_below (kR HO_11.out) hb); have n1_ := Aside0.mk (Kd.S_below (by (with_reducible repeat (first | apply Kd.S_alloc | apply Kd.S_drewN | apply Kd.S_drew)); exact HO_31.out) hb); have n2_ := Aside0.mk (Kd.S_below (by (with_reducible repeat (first | apply Kd.S_alloc | apply Kd.S_drewN | apply Kd.S_drew)); exact HO_233001.out) hb); have n3_ := Aside0.mk (Kd.S_below (by (with_reducible repeat (first | apply Kd.S_alloc | apply Kd.S_drewN | apply Kd.S_drew)); exact HO_234001.out) hb); have n4_ := Aside0.mk (Kd.S_below (by (with_reducible repeat (first | apply Kd.S_alloc | apply Kd.S_drewN | apply Kd.S_drew)); exact HO_235001.out) hb); have n5_ := Aside0.mk (blk_below (rb BK222.out) hb); have n6_ := Aside0.mk (blk_below (rb BK223.out) hb); have n7_ := Aside0.mk (blk_below (rb BK232.out) hb); have n8_ := Aside0.mk (blk_below (rb BK233.out) hb); have n9_ := Aside0.mk (blk_below (rb BK234.out) hb); have n10_ := Aside0.mk (blk_below (rb BK236.out) hb); have n11_ := Aside0.mk (below_step bb hb); clear HO_11; clear HO_31; clear HO_233001; clear HO_234001; clear HO_235001; clear BK222; clear BK223; clear BK232; clear BK233; clear BK234; clear BK236; clear HB; have HO_11 := n0_; have HO_31 := n1_; have HO_233001 := n2_; have HO_234001 := n3_; have HO_235001 := n4_; have BK222 := n5_; have BK223 := n6_; have BK232 := n7_; have BK233 := n8_; have BK234 := n9_; have BK236 := n10_; have HB := n11_; clear n0_ n1_ n2_ n3_ n4_ n5_ n6_ n7_ n8_ n9_ n10_ n11_; (try clear hb); (try clear hb2); (try clear hk); (try clear hi)) | ((with_reducible refine gate_builtin (b := .append) (xs := #[.tmp 50, .tmp 54]) rfl ?_); at_builtin; refine Kd.R_append Kd.string (w0 := w) w.heap.size rfl (.tmp 50) (.tmp 54) 46 9 (.string ⟨#[]⟩) 16 rfl Try.underlying46 info9 rfl (by decide) (by omega) u11 x11_2 t242 [.string t242] (fun _ => True) (fun _ => False) rfl rfl ?aP (fun _ hk => hk.elim) ?aF ?aO ?aB ?aS ?aL ?_; (case aP => exact rfl); (case aB => exact bb); (case aF => exact (fun _ _ => trivial)); (case aO => exact (kR HO_11.out)); (case aS => exact (below_size bb)); (case aL => have := LMc47.out; omega); intro v244 w49 ho hb hg hat; have nL := Aside0.mk (Kd.R_after (ok := (fun _ => True)) (kR (Kd.R_mono HLC.out (fun _ hk => ⟨trivial, hk⟩))) hg hat); clear HLC; have HLC := nL; clear nL; rw [← Ny243.out] at ho; have n0_ := Aside0.mk (Kd.S_after (ok := (fun k_ => some k_ ≠ (u235001 : Value).ownBlock ∧ k_ ≠ gb236)) (by (with_reducible repeat (first | apply Kd.S_alloc | apply Kd.S_drewN | apply Kd.S_drew)); exact Kd.S_mono HO_31.out (fun _ hk => ⟨⟨hk.2.1, hk.2.2⟩, hk.1⟩)) hg hat); have n1_ := Aside0.mk (Kd.S_after (ok := (fun k_ => some k_ ≠ (u235001 : Value).ownBlock ∧ k_ ≠ gb236)) (by (with_reducible repeat (first | apply Kd.S_alloc | apply Kd.S_drewN | apply Kd.S_drew)); exact Kd.S_mono HO_233001.out (fun _ hk => ⟨⟨hk.2.1, hk.2.2⟩, hk.1⟩)) hg hat); have n2_ := Aside0.mk (Kd.S_after (ok := (fun _ => True)) (by (with_reducible repeat (first | apply Kd.S_alloc | apply Kd.S_drewN | apply Kd.S_drew)); exact Kd.S_mono HO_234001.out (fun _ hk => ⟨trivial, hk⟩)) hg hat); have n3_ := Aside0.mk (Kd.S_after (ok := (fun k_ => some k_ ≠ (.slice (some ad235) t225.length co15 : Value).ownBlock ∧ some k_ ≠ (.slice (some ad235) t225.length co15 : Value).ownBlock ∧ k_ ≠ gb236)) (by (with_reducible repeat (first | apply Kd.S_alloc | apply Kd.S_drewN | apply Kd.S_drew)); exact Kd.S_mono HO_235001.out (fun _ hk => ⟨⟨hk.2.1, ⟨hk.2.2.1, hk.2.2.2⟩⟩, hk.1⟩)) hg hat); have n4_ := Aside0.mk (blk_grown (rb BK222.out) hg (Kd.R_ne HO_11.out BK222.out (by decide))); have n5_ := Aside0.mk (blk_grown (rb BK223.out) hg (Kd.R_ne HO_11.out BK223.out (by decide))); have n6_ := Aside0.mk (blk_grown (rb BK232.out) hg (Kd.R_ne HO_11.out BK232.out (by decide))); have n7_ := Aside0.mk (blk_grown (rb BK233.out) hg (Kd.R_ne HO_11.out BK233.out (by decide))); have n8_ := Aside0.mk (blk_grown (rb BK234.out) hg (Kd.R_ne HO_11.out BK234.out (by decide))); have n9_ := Aside0.mk (blk_grown (rb BK236.out) hg (Kd.R_ne HO_11.out BK236.out (by decide))); have n10_ := Aside0.mk (hb); have n11_ := Aside0.mk (ho); clear HO_31; clear HO_233001; clear HO_234001; clear HO_235001; clear BK222; clear BK223; clear BK232; clear BK233; clear BK234; clear BK236; clear HB; clear HO_11; have HO_31 := n0_; have HO_233001 := n1_; have HO_234001 := n2_; have HO_235001 := n3_; have BK222 := n4_; have BK223 := n5_; have BK232 := n6_; have BK233 := n7_; have BK234 := n8_; have BK236 := n9_; have HB := n10_; have HO245 := n11_; clear n0_ n1_ n2_ n3_ n4_ n5_ n6_ n7_ n8_ n9_ n10_ n11_; clear ho hb hg hat))
            go_roundg k2
            case measure => have := HK1.out; have := HK2.out; omega
            case rel => exact ⟨(y243), (wrap64 (x46_2 + 1)), (by first | rfl | (simp; done) | (simp [*]; done)), H', ⟨by have := HK1.out; have := HK2.out; omega⟩, ⟨kR HO245.out⟩, ⟨by (with_reducible repeat (first | apply Kd.S_alloc | apply Kd.S_drewN | apply Kd.S_drew)); exact Kd.S_mono HO_31.out (fun _ hk => ⟨hk.2, ⟨hk.1.1, hk.1.2⟩⟩)⟩, ⟨by (with_reducible repeat (first | apply Kd.S_alloc | apply Kd.S_drewN | apply Kd.S_drew)); exact Kd.S_mono HO_233001.out (fun _ hk => ⟨hk.2, ⟨hk.1.1, hk.1.2⟩⟩)⟩, ⟨by (with_reducible repeat (first | apply Kd.S_alloc | apply Kd.S_drewN | apply Kd.S_drew)); exact Kd.S_mono HO_234001.out (fun _ hk => hk.2)⟩, ⟨by (with_reducible repeat (first | apply Kd.S_alloc | apply Kd.S_drewN | apply Kd.S_drew)); exact Kd.S_mono HO_235001.out (fun _ hk => ⟨hk.2, ⟨hk.1.1, ⟨hk.1.2.1, hk.1.2.2⟩⟩⟩)⟩, ⟨by (with_reducible repeat (first | refine blk_drewN ?_ _ | refine blk_drew ?_ | refine blk_alloc ?_ _)); exact BK222.out⟩, ⟨by (with_reducible repeat (first | refine blk_drewN ?_ _ | refine blk_drew ?_ | refine blk_alloc ?_ _)); exact BK223.out⟩, ⟨by (with_reducible repeat (first | refine blk_drewN ?_ _ | refine blk_drew ?_ | refine blk_alloc ?_ _)); exact BK232.out⟩, ⟨by (with_reducible repeat (first | refine blk_drewN ?_ _ | refine blk_drew ?_ | refine blk_alloc ?_ _)); exact BK233.out⟩, ⟨by (with_reducible repeat (first | refine blk_drewN ?_ _ | refine blk_drew ?_ | refine blk_alloc ?_ _)); exact BK234.out⟩, ⟨by (with_reducible repeat (first | refine blk_drewN ?_ _ | refine blk_drew ?_ | refine blk_alloc ?_ _)); exact BK236.out⟩, ⟨kR (Kd.R_mono HLC.out (fun _ hk => hk.2))⟩, ⟨bb⟩⟩
           ·rw [if_neg c47] at H
            exact absurd H (by simp)
          ·rw [if_neg c45] at H
           exact absurd H (by simp)
         ·rw [if_neg c44] at H
          exact absurd H (by simp)
        ·rw [if_neg c43] at H
         have c43b0 : decide (x46_2 < (((rd_T48 t225 x33_1).f1).length : Int)) = false := decide_eq_false c43
         clear c43
         by_cases c50 : x235001_1.length < 1759218604441
         ·rw [if_pos c50] at H
          have LMc50 := Aside0.mk c50
          clear c50
          obtain ⟨y246, hy246⟩ : ∃ y_ : List (S48), y_ = (x235001_1 ++ [(⟨t237, x11_2, ((rd_T48 t225 x33_1).f2), ((rd_T48 t225 x33_1).f3), ((rd_T48 t225 x33_1).f4), ((rd_T48 t225 x33_1).f5)⟩ : S48)]) := ⟨_, rfl⟩
          replace H : (precinctlaw12_GraphNames.l0 k2 a1 t225 (t225.length : Int) (wrap64 (x33_1 + 1)) t224 t225 t224 y246) = some r := by first | (rw [hy246]; with_reducible exact H) | (have H2_ := (Option.bind_some _ _).symm.trans H; rw [hy246]; with_reducible exact H2_) | (have H2_ := (Option.bind_some _ _).symm.trans H; with_reducible exact H2_) | with_reducible exact H | (rw [hy246]; exact H) | exact H
          have Ny246 := Aside0.mk hy246
          clear hy246
          have H' := Aside0.mk H
          clear H
          obtain ⟨Ao51, co51, eo51⟩ := Kd.R_slice HO_11.out
          subst eo51
          have hnb52 := NB236_222.out
          have hnc52 := NB222_236.out
          have hnb53 := NB236_223.out
          have hnc53 := NB223_236.out
          have hnb54 := NB236_232.out
          have hnc54 := NB232_236.out
          have hnb55 := NB236_233.out
          have hnc55 := NB233_236.out
          have hnb56 := NB236_234.out
          have hnc56 := NB234_236.out
          have hcz57_0 : wr.cell? ⟨gb236, 0, none⟩ = some (.string t237) := (blk_cell BK236.out 0).trans rfl
          have hcz57_1 : wr.cell? ⟨gb236, 1, none⟩ = some (.slice A235_1 ((rd_T48 t225 x33_1).f1).length c235_1) := (blk_cell BK236.out 1).trans rfl
          have hcz57_2 : wr.cell? ⟨gb236, 2, none⟩ = some (.int .i64 ((rd_T48 t225 x33_1).f2)) := (blk_cell BK236.out 2).trans rfl
          have hcz57_3 : wr.cell? ⟨gb236, 3, none⟩ = some (.int .i64 ((rd_T48 t225 x33_1).f3)) := (blk_cell BK236.out 3).trans rfl
          have hcz57_4 : wr.cell? ⟨gb236, 4, none⟩ = some (.int .i64 ((rd_T48 t225 x33_1).f4)) := (blk_cell BK236.out 4).trans rfl
          have hcz57_5 : wr.cell? ⟨gb236, 5, none⟩ = some (.string ((rd_T48 t225 x33_1).f5)) := (blk_cell BK236.out 5).trans rfl
          have hfz57_0 := blk_frozen BK236.out 0
          have hfz57_1 := blk_frozen BK236.out 1
          have hfz57_2 := blk_frozen BK236.out 2
          have hfz57_3 := blk_frozen BK236.out 3
          have hfz57_4 := blk_frozen BK236.out 4
          have hfz57_5 := blk_frozen BK236.out 5
          go_wp2_with (first | ((with_reducible refine gate_store (t := 46) (p := 58) rfl ?_); refine store_event (t := 46) (p := 58) (v := ?vo_w58) (w1 := (wr.setCell ⟨gb236, 1, none⟩ (.slice Ao51 x11_2.length co51))) ?hg ?ho ?hn ?hr ?_; (case ho => rfl); (case hg => rfl); (case hn => rfl); (case hr => first | (go_simp; done) | (go_simp; rfl)); intro w58 hw; have n0_ : Aside0 (Kd.R Kd.string 9 w58 w.heap.size (fun _ => True) (.slice Ao51 x11_2.length co51) x11_2) := ⟨(by rw [hw]; exact (kR (Kd.R_mono (Kd.R_far (p := ⟨gb236, 1, none⟩) (Kd.R_types HO_11.out BK236.out (by decide)) (fun _ hk => hk.2) (.slice Ao51 x11_2.length co51)) (fun _ hk => trivial))))⟩; have n1_ : Aside0 (Kd.S k48 48 w58 w.heap.size (fun k_ => some k_ ≠ (.slice Ao51 x11_2.length co51 : Value).ownBlock ∧ some k_ ≠ (u235001 : Value).ownBlock ∧ k_ ≠ gb236) (.slice (some ad235) t225.length co15) t225) := ⟨(by rw [hw]; exact (by (with_reducible repeat (first | apply Kd.S_alloc | apply Kd.S_drewN | apply Kd.S_drew)); exact Kd.S_mono (Kd.S_far (p := ⟨gb236, 1, none⟩) (Kd.S_mono HO_31.out (fun k_ hk => (⟨hk, hk.2.2⟩ : _ ∧ k_ ≠ gb236))) (fun _ hk => hk.2) (.slice Ao51 x11_2.length co51)) (fun _ hk => ⟨hk.1.1, ⟨hk.1.2.1, hk.1.2.2⟩⟩)))⟩; have n2_ : Aside0 (Kd.S k48 48 w58 w.heap.size (fun k_ => some k_ ≠ (.slice Ao51 x11_2.length co51 : Value).ownBlock ∧ some k_ ≠ (u235001 : Value).ownBlock ∧ k_ ≠ gb236) (.slice (some ad235) t225.length co15) t225) := ⟨(by rw [hw]; exact (by (with_reducible repeat (first | apply Kd.S_alloc | apply Kd.S_drewN | apply Kd.S_drew)); exact Kd.S_mono (Kd.S_far (p := ⟨gb236, 1, none⟩) (Kd.S_mono HO_233001.out (fun k_ hk => (⟨hk, hk.2.2⟩ : _ ∧ k_ ≠ gb236))) (fun _ hk => hk.2) (.slice Ao51 x11_2.length co51)) (fun _ hk => ⟨hk.1.1, ⟨hk.1.2.1, hk.1.2.2⟩⟩)))⟩; have n3_ : Aside0 (Kd.S k125 125 w58 w.heap.size (fun k_ => some k_ ≠ (.slice Ao51 x11_2.length co51 : Value).ownBlock) (.slice Ao19 t229.length co19) t229) := ⟨(by rw [hw]; exact (by (with_reducible repeat (first | apply Kd.S_alloc | apply Kd.S_drewN | apply Kd.S_drew)); exact Kd.S_mono (Kd.S_far (p := ⟨gb236, 1, none⟩) (Kd.S_types HO_234001.out BK236.out (by decide)) (fun _ hk => hk.2) (.slice Ao51 x11_2.length co51)) (fun _ hk => hk.1)))⟩; have n4_ : Aside0 (Kd.S k48 48 w58 w.heap.size (fun k_ => some k_ ≠ (.slice Ao51 x11_2.length co51 : Value).ownBlock ∧ some k_ ≠ (.slice (some ad235) t225.length co15 : Value).ownBlock ∧ some k_ ≠ (.slice (some ad235) t225.length co15 : Value).ownBlock ∧ k_ ≠ gb236) u235001 x235001_1) := ⟨(by rw [hw]; exact (by (with_reducible repeat (first | apply Kd.S_alloc | apply Kd.S_drewN | apply Kd.S_drew)); exact Kd.S_mono (Kd.S_far (p := ⟨gb236, 1, none⟩) (Kd.S_mono HO_235001.out (fun k_ hk => (⟨hk, hk.2.2.2⟩ : _ ∧ k_ ≠ gb236))) (fun _ hk => hk.2) (.slice Ao51 x11_2.length co51)) (fun _ hk => ⟨hk.1.1, ⟨hk.1.2.1, ⟨hk.1.2.2.1, hk.1.2.2.2⟩⟩⟩)))⟩; have n5_ : Aside0 (w58.heap[gb222]? = some (.cells #[.string a0_0, .slice A0_1 l0_1.length c0_1] 24 (0, 0))) := ⟨(by rw [hw]; exact (rb (blk_far (rb BK222.out) NB222_236.out _)))⟩; have n6_ : Aside0 (w58.heap[gb223]? = some (.cells #[.int .i64 a1] 3 (0, 0))) := ⟨(by rw [hw]; exact (rb (blk_far (rb BK223.out) NB223_236.out _)))⟩; have n7_ : Aside0 (w58.heap[gb232]? = some (.cells #[.string t224, .slice (some ad235) t225.length co15] 27 (0, 0))) := ⟨(by rw [hw]; exact (rb (blk_far (rb BK232.out) NB232_236.out _)))⟩; have n8_ : Aside0 (w58.heap[gb233]? = some (.cells #[.string t228, .slice Ao19 t229.length co19] 30 (0, 0))) := ⟨(by rw [hw]; exact (rb (blk_far (rb BK233.out) NB233_236.out _)))⟩; have n9_ : Aside0 (w58.heap[gb234]? = some (.cells #[.string t224, u235001] 27 (0, 0))) := ⟨(by rw [hw]; exact (rb (blk_far (rb BK234.out) NB234_236.out _)))⟩; have n10_ : Aside0 (w58.heap[gb236]? = some (.cells #[.string t237, .slice Ao51 x11_2.length co51, .int .i64 ((rd_T48 t225 x33_1).f2), .int .i64 ((rd_T48 t225 x33_1).f3), .int .i64 ((rd_T48 t225 x33_1).f4), .string ((rd_T48 t225 x33_1).f5)] 48 (0, 0))) := ⟨(by rw [hw]; exact (rb (blk_put (cs := #[.string t237, .slice A235_1 ((rd_T48 t225 x33_1).f1).length c235_1, .int .i64 ((rd_T48 t225 x33_1).f2), .int .i64 ((rd_T48 t225 x33_1).f3), .int .i64 ((rd_T48 t225 x33_1).f4), .string ((rd_T48 t225 x33_1).f5)]) (rb BK236.out) 1 _ rfl)))⟩; have n11_ : Aside0 (Below w.heap.size w w58) := ⟨(by rw [hw]; exact bb)⟩; clear hw; clear HO_11; clear HO_31; clear HO_233001; clear HO_234001; clear HO_235001; clear BK222; clear BK223; clear BK232; clear BK233; clear BK234; clear BK236; clear HB; have HO_11 := n0_; have HO_31 := n1_; have HO_233001 := n2_; have HO_234001 := n3_; have HO_235001 := n4_; have BK222 := n5_; have BK223 := n6_; have BK232 := n7_; have BK233 := n8_; have BK234 := n9_; have BK236 := n10_; have HB := n11_; clear n0_ n1_ n2_ n3_ n4_ n5_ n6_ n7_ n8_ n9_ n10_ n11_; have hnb59 := NB234_222.out; have hnc59 := NB222_234.out; have hnb60 := NB234_223.out; have hnc60 := NB223_234.out; have hnb61 := NB234_232.out; have hnc61 := NB232_234.out; have hnb62 := NB234_233.out; have hnc62 := NB233_234.out; have hcz63_0 : w58.cell? ⟨gb234, 0, none⟩ = some (.string t224) := (blk_cell BK234.out 0).trans rfl; have hcz63_1 : w58.cell? ⟨gb234, 1, none⟩ = some (u235001) := (blk_cell BK234.out 1).trans rfl; have hfz63_0 := blk_frozen BK234.out 0; have hfz63_1 := blk_frozen BK234.out 1; have hcz64_0 : w58.cell? ⟨gb236, 0, none⟩ = some (.string t237) := (blk_cell BK236.out 0).trans rfl; have hcz64_1 : w58.cell? ⟨gb236, 1, none⟩ = some (.slice Ao51 x11_2.length co51) := (blk_cell BK236.out 1).trans rfl; have hcz64_2 : w58.cell? ⟨gb236, 2, none⟩ = some (.int .i64 ((rd_T48 t225 x33_1).f2)) := (blk_cell BK236.out 2).trans rfl; have hcz64_3 : w58.cell? ⟨gb236, 3, none⟩ = some (.int .i64 ((rd_T48 t225 x33_1).f3)) := (blk_cell BK236.out 3).trans rfl; have hcz64_4 : w58.cell? ⟨gb236, 4, none⟩ = some (.int .i64 ((rd_T48 t225 x33_1).f4)) := (blk_cell BK236.out 4).trans rfl; have hcz64_5 : w58.cell? ⟨gb236, 5, none⟩ = some (.string ((rd_T48 t225 x33_1).f5)) := (blk_cell BK236.out 5).trans rfl; have hfz64_0 := blk_frozen BK236.out 0; have hfz64_1 := blk_frozen BK236.out 1; have hfz64_2 := blk_frozen BK236.out 2; have hfz64_3 := blk_frozen BK236.out 3; have hfz64_4 := blk_frozen BK236.out 4; have hfz64_5 := blk_frozen BK236.out 5) | ((with_reducible refine gate_builtin (b := .append) (xs := #[.tmp 60, .tmp 62]) rfl ?_); at_builtin; refine Kd.S_append k48 (w0 := w) w.heap.size rfl (.tmp 60) (.tmp 62) 25 48 (.agg #[(.string ⟨#[]⟩), (.slice none 0 0), (.int .i64 0), (.int .i64 0), (.int .i64 0), (.string ⟨#[]⟩)]) 80 rfl Try.underlying25 info48 rfl (by decide) (by omega) u235001 x235001_1 (⟨t237, x11_2, ((rd_T48 t225 x33_1).f2), ((rd_T48 t225 x33_1).f3), ((rd_T48 t225 x33_1).f4), ((rd_T48 t225 x33_1).f5)⟩ : S48) [.string t237, .slice Ao51 x11_2.length co51, .int .i64 ((rd_T48 t225 x33_1).f2), .int .i64 ((rd_T48 t225 x33_1).f3), .int .i64 ((rd_T48 t225 x33_1).f4), .string ((rd_T48 t225 x33_1).f5)] (fun k_ => some k_ ≠ (.slice (some ad235) t225.length co15 : Value).ownBlock ∧ some k_ ≠ (.slice (some ad235) t225.length co15 : Value).ownBlock ∧ k_ ≠ gb236) (fun k_ => some k_ = (.slice Ao51 x11_2.length co51 : Value).ownBlock) rfl rfl ?aP (fun k_ hk_ => ((Kd.R_mono (ok' := fun k_ => ((fun k_ => some k_ ≠ (.slice (some ad235) t225.length co15 : Value).ownBlock ∧ some k_ ≠ (.slice (some ad235) t225.length co15 : Value).ownBlock ∧ k_ ≠ gb236)) k_ ∧ some k_ ≠ (u235001 : Value).ownBlock) (Kd.R_types (Kd.R_apart' (Kd.R_apart' (Kd.R_apart' (HO_11.out) (Kd.S_typed HO_31.out) (by decide)) (Kd.S_typed HO_233001.out) (by decide)) (Kd.S_typed HO_235001.out) (by decide)) BK236.out (by decide)) (fun k_ hk => ⟨⟨hk.1.1.1.2, ⟨hk.1.1.2, hk.2⟩⟩, hk.1.2⟩))).1 k_ hk_.symm) ?aF ?aO ?aB ?aS ?aL ?_; (case aP => exact k48_mkM _ _ _ (⟨t237, x11_2, ((rd_T48 t225 x33_1).f2), ((rd_T48 t225 x33_1).f3), ((rd_T48 t225 x33_1).f4), ((rd_T48 t225 x33_1).f5)⟩ : S48) (Kd.R_mono (Kd.R_tight rfl (Kd.R_mono (ok' := fun k_ => ((fun k_ => some k_ ≠ (.slice (some ad235) t225.length co15 : Value).ownBlock ∧ some k_ ≠ (.slice (some ad235) t225.length co15 : Value).ownBlock ∧ k_ ≠ gb236)) k_ ∧ some k_ ≠ (u235001 : Value).ownBlock) (Kd.R_types (Kd.R_apart' (Kd.R_apart' (Kd.R_apart' (HO_11.out) (Kd.S_typed HO_31.out) (by decide)) (Kd.S_typed HO_233001.out) (by decide)) (Kd.S_typed HO_235001.out) (by decide)) BK236.out (by decide)) (fun k_ hk => ⟨⟨hk.1.1.1.2, ⟨hk.1.1.2, hk.2⟩⟩, hk.1.2⟩))) (fun _ h_ => h_))); (case aB => exact bb); (case aF => exact (fun k_ hk => ⟨Kd.fresh' (Kd.S_lt (by (with_reducible repeat (first | apply Kd.S_alloc | apply Kd.S_drewN | apply Kd.S_drew)); exact HO_31.out)) k_ hk, Kd.fresh' (Kd.S_lt (by (with_reducible repeat (first | apply Kd.S_alloc | apply Kd.S_drewN | apply Kd.S_drew)); exact HO_233001.out)) k_ hk, Kd.freshB (rb BK236.out) k_ hk⟩)); (case aO => exact (by (with_reducible repeat (first | apply Kd.S_alloc | apply Kd.S_drewN | apply Kd.S_drew)); exact Kd.S_mono HO_235001.out (fun k_ hk => ⟨⟨hk.2.1, ⟨hk.2.2.1, hk.2.2.2⟩⟩, fun e_ => hk.1 e_⟩))); (case aS => exact (below_size bb)); (case aL => have := LMc50.out; omega); intro v247 w65 ho hb hg hat; rw [← Ny246.out] at ho; have n0_ := Aside0.mk (Kd.S_after (ok := (fun k_ => some k_ ≠ (.slice Ao51 x11_2.length co51 : Value).ownBlock ∧ k_ ≠ gb236)) (by (with_reducible repeat (first | apply Kd.S_alloc | apply Kd.S_drewN | apply Kd.S_drew)); exact Kd.S_mono HO_31.out (fun _ hk => ⟨⟨hk.1, hk.2.2⟩, hk.2.1⟩)) hg hat); have n1_ := Aside0.mk (Kd.S_after (ok := (fun k_ => some k_ ≠ (.slice Ao51 x11_2.length co51 : Value).ownBlock ∧ k_ ≠ gb236)) (by (with_reducible repeat (first | apply Kd.S_alloc | apply Kd.S_drewN | apply Kd.S_drew)); exact Kd.S_mono HO_233001.out (fun _ hk => ⟨⟨hk.1, hk.2.2⟩, hk.2.1⟩)) hg hat); have n2_ := Aside0.mk (Kd.S_over' (by (with_reducible repeat (first | apply Kd.S_alloc | apply Kd.S_drewN | apply Kd.S_drew)); exact HO_234001.out) (Kd.S_typed (by (with_reducible repeat (first | apply Kd.S_alloc | apply Kd.S_drewN | apply Kd.S_drew)); exact HO_235001.out)) (by decide) hg); have n3_ := Aside0.mk (blk_grown (rb BK222.out) hg (Kd.S_ne HO_235001.out BK222.out (by decide))); have n4_ := Aside0.mk (blk_grown (rb BK223.out) hg (Kd.S_ne HO_235001.out BK223.out (by decide))); have n5_ := Aside0.mk (blk_grown (rb BK232.out) hg (Kd.S_ne HO_235001.out BK232.out (by decide))); have n6_ := Aside0.mk (blk_grown (rb BK233.out) hg (Kd.S_ne HO_235001.out BK233.out (by decide))); have n7_ := Aside0.mk (blk_grown (rb BK234.out) hg (Kd.S_ne HO_235001.out BK234.out (by decide))); have n8_ := Aside0.mk (blk_grown (rb BK236.out) hg (Kd.S_away HO_235001.out (fun _ hk => hk.2.2.2))); have n9_ := Aside0.mk (hb); have n10_ := Aside0.mk (ho); clear HO_31; clear HO_233001; clear HO_234001; clear BK222; clear BK223; clear BK232; clear BK233; clear BK234; clear BK236; clear HB; clear HO_235001; clear HO_11; have HO_31 := n0_; have HO_233001 := n1_; have HO_234001 := n2_; have BK222 := n3_; have BK223 := n4_; have BK232 := n5_; have BK233 := n6_; have BK234 := n7_; have BK236 := n8_; have HB := n9_; have HO248 := n10_; clear n0_ n1_ n2_ n3_ n4_ n5_ n6_ n7_ n8_ n9_ n10_; clear ho hb hg hat; obtain ⟨Ao66, co66, eo66⟩ := Kd.S_slice HO248.out; subst eo66; have hcz67_0 : w65.cell? ⟨gb234, 0, none⟩ = some (.string t224) := (blk_cell BK234.out 0).trans rfl; have hcz67_1 : w65.cell? ⟨gb234, 1, none⟩ = some (u235001) := (blk_cell BK234.out 1).trans rfl; have hfz67_0 := blk_frozen BK234.out 0; have hfz67_1 := blk_frozen BK234.out 1))
          go_roundg k2
          case measure => have := HK1.out; have := HK2.out; omega
          case rel => exact ⟨(wrap64 (x33_1 + 1)), (y246), (.slice Ao66 y246.length co66), (by first | rfl | (simp; done) | (simp [*]; done)), H', ⟨by have := HK1.out; have := HK2.out; omega⟩, ⟨by (with_reducible repeat (first | apply Kd.S_alloc | apply Kd.S_drewN | apply Kd.S_drew)); exact Kd.S_mono (Kd.S_far (p := ⟨gb234, 1, none⟩) (Kd.S_types HO_31.out BK234.out (by decide)) (fun _ hk => hk.2) (.slice Ao66 y246.length co66)) (fun _ hk => hk.1.2)⟩, ⟨by (with_reducible repeat (first | apply Kd.S_alloc | apply Kd.S_drewN | apply Kd.S_drew)); exact Kd.S_mono (Kd.S_far (p := ⟨gb234, 1, none⟩) (Kd.S_types HO_233001.out BK234.out (by decide)) (fun _ hk => hk.2) (.slice Ao66 y246.length co66)) (fun _ hk => hk.1.2)⟩, ⟨by (with_reducible repeat (first | apply Kd.S_alloc | apply Kd.S_drewN | apply Kd.S_drew)); exact Kd.S_mono (Kd.S_far (p := ⟨gb234, 1, none⟩) (Kd.S_types HO_234001.out BK234.out (by decide)) (fun _ hk => hk.2) (.slice Ao66 y246.length co66)) (fun _ hk => trivial)⟩, ⟨by (with_reducible repeat (first | apply Kd.S_alloc | apply Kd.S_drewN | apply Kd.S_drew)); exact Kd.S_mono (Kd.S_far (p := ⟨gb234, 1, none⟩) (Kd.S_types HO248.out BK234.out (by decide)) (fun _ hk => hk.2) (.slice Ao66 y246.length co66)) (fun _ hk => ⟨hk.1.1, hk.1.2.1⟩)⟩, ⟨by (with_reducible repeat (first | refine blk_drewN ?_ _ | refine blk_drew ?_ | refine blk_alloc ?_ _)); refine blk_far ?_ NB222_234.out _; (with_reducible repeat (first | refine blk_drewN ?_ _ | refine blk_drew ?_ | refine blk_alloc ?_ _)); exact BK222.out⟩, ⟨by (with_reducible repeat (first | refine blk_drewN ?_ _ | refine blk_drew ?_ | refine blk_alloc ?_ _)); refine blk_far ?_ NB223_234.out _; (with_reducible repeat (first | refine blk_drewN ?_ _ | refine blk_drew ?_ | refine blk_alloc ?_ _)); exact BK223.out⟩, ⟨by (with_reducible repeat (first | refine blk_drewN ?_ _ | refine blk_drew ?_ | refine blk_alloc ?_ _)); refine blk_far ?_ NB232_234.out _; (with_reducible repeat (first | refine blk_drewN ?_ _ | refine blk_drew ?_ | refine blk_alloc ?_ _)); exact BK232.out⟩, ⟨by (with_reducible repeat (first | refine blk_drewN ?_ _ | refine blk_drew ?_ | refine blk_alloc ?_ _)); refine blk_far ?_ NB233_234.out _; (with_reducible repeat (first | refine blk_drewN ?_ _ | refine blk_drew ?_ | refine blk_alloc ?_ _)); exact BK233.out⟩, ⟨by (with_reducible repeat (first | refine blk_drewN ?_ _ | refine blk_drew ?_ | refine blk_alloc ?_ _)); refine blk_put (cs := #[.string t224, u235001]) ?_ 1 _ rfl; (with_reducible repeat (first | refine blk_drewN ?_ _ | refine blk_drew ?_ | refine blk_alloc ?_ _)); exact BK234.out⟩, ⟨bb⟩⟩
         ·rw [if_neg c50] at H
          exact absurd H (by simp)
     ·rw [if_neg c29] at H
      exact absurd H (by simp)
    ·rw [if_neg c28] at H
     exact absurd H (by simp)
   ·rw [if_neg c27] at H
    have c27b0 : decide (x33_1 < (t225.length : Int)) = false := decide_eq_false c27
    clear c27
    replace H := Option.bind_eq_some_iff.mp H
    obtain ⟨⟨t249, t250⟩, A680, H⟩ := H
    replace H : ((graph_Check.f k1 t224 x235001_1).bind fun bt251 => ((precinctlaw12_wakes.f).bind fun t253 => (if t253 = true then (if t249 = bt251.1 then (precinctlaw12_GraphNames.j2 k1 t250 (t250 != bt251.2) t224 t225 t224 x235001_1) else (precinctlaw12_GraphNames.j2 k1 t250 true t224 t225 t224 x235001_1)) else (precinctlaw12_GraphNames.j2 k1 t250 true t224 t225 t224 x235001_1)))) = some r := H
    have A68 := Aside0.mk A680
    clear A680
    replace H := Option.bind_eq_some_iff.mp H
    obtain ⟨⟨t251, t252⟩, A690, H⟩ := H
    replace H : ((precinctlaw12_wakes.f).bind fun t253 => (if t253 = true then (if t249 = t251 then (precinctlaw12_GraphNames.j2 k1 t250 (t250 != t252) t224 t225 t224 x235001_1) else (precinctlaw12_GraphNames.j2 k1 t250 true t224 t225 t224 x235001_1)) else (precinctlaw12_GraphNames.j2 k1 t250 true t224 t225 t224 x235001_1))) = some r := H
    have A69 := Aside0.mk A690
    clear A690
    have HC70 := Aside0.mk H
    clear H
    have hnb71 := NB232_222.out
    have hnc71 := NB222_232.out
    have hnb72 := NB232_223.out
    have hnc72 := NB223_232.out
    have hnb73 := NB232_233.out
    have hnc73 := NB233_232.out
    have hnb74 := NB232_234.out
    have hnc74 := NB234_232.out
    have hcz75_0 : wr.cell? ⟨gb232, 0, none⟩ = some (.string t224) := (blk_cell BK232.out 0).trans rfl
    have hcz75_1 : wr.cell? ⟨gb232, 1, none⟩ = some (.slice Ao15 t225.length co15) := (blk_cell BK232.out 1).trans rfl
    have hfz75_0 := blk_frozen BK232.out 0
    have hfz75_1 := blk_frozen BK232.out 1
    go_upto_region 19 with (first | ((with_reducible refine gate_callee (f := 15) rfl ?_); refine goesL_ (some 68) rfl rfl Try.func15 (by kernel_rfl) rfl #[.agg #[.string t224, .slice Ao15 t225.length co15]] rfl ag ?_; (with_reducible refine (graph_Check.calls k1 t224 _ _ t225 t249 t250 _ ?side1 ?side2 A68.out).mono ?_); (case side1 => repeat (first | exact (Kd.S_reads' HO_233001.out).2.2 | (with_reducible refine Kd.C_alloc ?_ _) | (with_reducible refine Kd.C_drewN ?_ _) | (with_reducible refine Kd.C_drew ?_))); (case side2 => exact (Kd.S_reads' HO_233001.out).2.1); rintro e w76 ⟨rfl, hb⟩; refine ⟨_, rfl, ?_⟩; have n0_ := Aside0.mk (Kd.S_below (by (with_reducible repeat (first | apply Kd.S_alloc | apply Kd.S_drewN | apply Kd.S_drew)); exact HO_31.out) hb); have n1_ := Aside0.mk (Kd.S_below (by (with_reducible repeat (first | apply Kd.S_alloc | apply Kd.S_drewN | apply Kd.S_drew)); exact HO_233001.out) hb); have n2_ := Aside0.mk (Kd.S_below (by (with_reducible repeat (first | apply Kd.S_alloc | apply Kd.S_drewN | apply Kd.S_drew)); exact HO_234001.out) hb); have n3_ := Aside0.mk (Kd.S_below (by (with_reducible repeat (first | apply Kd.S_alloc | apply Kd.S_drewN | apply Kd.S_drew)); exact HO_235001.out) hb); have n4_ := Aside0.mk (blk_below (rb BK222.out) hb); have n5_ := Aside0.mk (blk_below (rb BK223.out) hb); have n6_ := Aside0.mk (blk_below (rb BK232.out) hb); have n7_ := Aside0.mk (blk_below (rb BK233.out) hb); have n8_ := Aside0.mk (blk_below (rb BK234.out) hb); have n9_ := Aside0.mk (below_step bb hb); clear HO_31; clear HO_233001; clear HO_234001; clear HO_235001; clear BK222; clear BK223; clear BK232; clear BK233; clear BK234; clear HB; have HO_31 := n0_; have HO_233001 := n1_; have HO_234001 := n2_; have HO_235001 := n3_; have BK222 := n4_; have BK223 := n5_; have BK232 := n6_; have BK233 := n7_; have BK234 := n8_; have HB := n9_; clear n0_ n1_ n2_ n3_ n4_ n5_ n6_ n7_ n8_ n9_; (try clear hb); (try clear hb2); (try clear hk); (try clear hi); have hnb77 := NB234_222.out; have hnc77 := NB222_234.out; have hnb78 := NB234_223.out; have hnc78 := NB223_234.out; have hnb79 := NB234_233.out; have hnc79 := NB233_234.out; have hcz80_0 : w76.cell? ⟨gb234, 0, none⟩ = some (.string t224) := (blk_cell BK234.out 0).trans rfl; have hcz80_1 : w76.cell? ⟨gb234, 1, none⟩ = some (u235001) := (blk_cell BK234.out 1).trans rfl; have hfz80_0 := blk_frozen BK234.out 0; have hfz80_1 := blk_frozen BK234.out 1; obtain ⟨Ao81, co81, eo81⟩ := Kd.S_slice HO_235001.out; subst eo81) | ((with_reducible refine gate_callee (f := 15) rfl ?_); refine goesL_ (some 73) rfl rfl Try.func15 (by kernel_rfl) rfl #[.agg #[.string t224, .slice Ao81 x235001_1.length co81]] rfl ag ?_; (with_reducible refine (graph_Check.calls k1 t224 _ _ x235001_1 t251 t252 _ ?side1 ?side2 A69.out).mono ?_); (case side1 => repeat (first | exact (Kd.S_reads' HO_235001.out).2.2 | (with_reducible refine Kd.C_alloc ?_ _) | (with_reducible refine Kd.C_drewN ?_ _) | (with_reducible refine Kd.C_drew ?_))); (case side2 => exact (Kd.S_reads' HO_235001.out).2.1); rintro e w82 ⟨rfl, hb⟩; refine ⟨_, rfl, ?_⟩; have n0_ := Aside0.mk (Kd.S_below (by (with_reducible repeat (first | apply Kd.S_alloc | apply Kd.S_drewN | apply Kd.S_drew)); exact HO_31.out) hb); have n1_ := Aside0.mk (Kd.S_below (by (with_reducible repeat (first | apply Kd.S_alloc | apply Kd.S_drewN | apply Kd.S_drew)); exact HO_233001.out) hb); have n2_ := Aside0.mk (Kd.S_below (by (with_reducible repeat (first | apply Kd.S_alloc | apply Kd.S_drewN | apply Kd.S_drew)); exact HO_234001.out) hb); have n3_ := Aside0.mk (Kd.S_below (by (with_reducible repeat (first | apply Kd.S_alloc | apply Kd.S_drewN | apply Kd.S_drew)); exact HO_235001.out) hb); have n4_ := Aside0.mk (blk_below (rb BK222.out) hb); have n5_ := Aside0.mk (blk_below (rb BK223.out) hb); have n6_ := Aside0.mk (blk_below (rb BK232.out) hb); have n7_ := Aside0.mk (blk_below (rb BK233.out) hb); have n8_ := Aside0.mk (blk_below (rb BK234.out) hb); have n9_ := Aside0.mk (below_step bb hb); clear HO_31; clear HO_233001; clear HO_234001; clear HO_235001; clear BK222; clear BK223; clear BK232; clear BK233; clear BK234; clear HB; have HO_31 := n0_; have HO_233001 := n1_; have HO_234001 := n2_; have HO_235001 := n3_; have BK222 := n4_; have BK223 := n5_; have BK232 := n6_; have BK233 := n7_; have BK234 := n8_; have HB := n9_; clear n0_ n1_ n2_ n3_ n4_ n5_ n6_ n7_ n8_ n9_; (try clear hb); (try clear hb2); (try clear hk); (try clear hi)))
    (try simp only [Act.put, List.setIfInBounds_toArray, List.set_cons_zero, List.set_cons_succ])
    go_cut [87] (fun v87 wc => ∃ (kq : Nat) (x87_69 : Bool), v87 = .bool x87_69 ∧ Aside0 (precinctlaw12_GraphNames.j2 kq t250 x87_69 t224 t225 t224 x235001_1 = some r) ∧ Aside0 (kq ≤ k1) ∧ Aside0 (Kd.S k48 48 wc w.heap.size (fun k_ => some k_ ≠ ((.slice Ao81 x235001_1.length co81) : Value).ownBlock) (.slice Ao15 t225.length co15) t225) ∧ Aside0 (Kd.S k125 125 wc w.heap.size (fun _ => True) (.slice Ao19 t229.length co19) t229) ∧ Aside0 (Kd.S k48 48 wc w.heap.size (fun k_ => some k_ ≠ ((.slice Ao15 t225.length co15) : Value).ownBlock) (.slice Ao81 x235001_1.length co81) x235001_1) ∧ Aside0 (wc.heap[gb222]? = some (.cells #[.string a0_0, (.slice A0_1 l0_1.length c0_1)] 24 (0, 0))) ∧ Aside0 (wc.heap[gb223]? = some (.cells #[.int .i64 a1] 3 (0, 0))) ∧ Aside0 (wc.heap[gb232]? = some (.cells #[.string t224, (.slice Ao15 t225.length co15)] 27 (0, 0))) ∧ Aside0 (wc.heap[gb233]? = some (.cells #[.string t228, (.slice Ao19 t229.length co19)] 30 (0, 0))) ∧ Aside0 (wc.heap[gb234]? = some (.cells #[.string t224, (.slice Ao81 x235001_1.length co81)] 27 (0, 0))) ∧ Aside0 (Below w.heap.size w wc))
    case first =>
     have H := HC70.out
     clear HC70
     replace H := Option.bind_eq_some_iff.mp H
     obtain ⟨t253, A830, H⟩ := H
     replace H : (if t253 = true then (if t249 = t251 then (precinctlaw12_GraphNames.j2 k1 t250 (t250 != t252) t224 t225 t224 x235001_1) else (precinctlaw12_GraphNames.j2 k1 t250 true t224 t225 t224 x235001_1)) else (precinctlaw12_GraphNames.j2 k1 t250 true t224 t225 t224 x235001_1)) = some r := H
     have A83 := Aside0.mk A830
     clear A830
     by_cases c84 : t253 = true
     ·subst c84
      have H1 : (if t249 = t251 then (precinctlaw12_GraphNames.j2 k1 t250 (t250 != t252) t224 t225 t224 x235001_1) else (precinctlaw12_GraphNames.j2 k1 t250 true t224 t225 t224 x235001_1)) = some r := by rw [if_pos rfl] at H; exact H
      clear H
      have H := H1
      clear H1
      by_cases c85 : t249 = t251
      ·rw [if_pos c85] at H
       have c85b0 : (t249 == t251) = true := beq_iff_eq.mpr c85
       have c85b1 : (t249 != t251) = false := bne_eq_false_iff_eq.mpr c85
       clear c85
       (first | rw [c85b0] | (simp only [i64_w, i32_w]; rw [c85b0]) | skip)
       have H' := Aside0.mk H
       clear H
       go_wp2_with (first | ((with_reducible refine gate_callee (f := 17) rfl ?_); refine goesL_ (some 76) rfl rfl Try.func17 (by kernel_rfl) rfl #[] rfl ag ?_; (with_reducible refine (precinctlaw12_wakes.calls  true _ A83.out).mono ?_); rintro e w86 ⟨rfl, hb⟩; refine ⟨_, rfl, ?_⟩; have n0_ := Aside0.mk (Kd.S_below (by (with_reducible repeat (first | apply Kd.S_alloc | apply Kd.S_drewN | apply Kd.S_drew)); exact HO_31.out) hb); have n1_ := Aside0.mk (Kd.S_below (by (with_reducible repeat (first | apply Kd.S_alloc | apply Kd.S_drewN | apply Kd.S_drew)); exact HO_233001.out) hb); have n2_ := Aside0.mk (Kd.S_below (by (with_reducible repeat (first | apply Kd.S_alloc | apply Kd.S_drewN | apply Kd.S_drew)); exact HO_234001.out) hb); have n3_ := Aside0.mk (Kd.S_below (by (with_reducible repeat (first | apply Kd.S_alloc | apply Kd.S_drewN | apply Kd.S_drew)); exact HO_235001.out) hb); have n4_ := Aside0.mk (blk_below (rb BK222.out) hb); have n5_ := Aside0.mk (blk_below (rb BK223.out) hb); have n6_ := Aside0.mk (blk_below (rb BK232.out) hb); have n7_ := Aside0.mk (blk_below (rb BK233.out) hb); have n8_ := Aside0.mk (blk_below (rb BK234.out) hb); have n9_ := Aside0.mk (below_step bb hb); clear HO_31; clear HO_233001; clear HO_234001; clear HO_235001; clear BK222; clear BK223; clear BK232; clear BK233; clear BK234; clear HB; have HO_31 := n0_; have HO_233001 := n1_; have HO_234001 := n2_; have HO_235001 := n3_; have BK222 := n4_; have BK223 := n5_; have BK232 := n6_; have BK233 := n7_; have BK234 := n8_; have HB := n9_; clear n0_ n1_ n2_ n3_ n4_ n5_ n6_ n7_ n8_ n9_; (try clear hb); (try clear hb2); (try clear hk); (try clear hi)))
       go_meet
       case rel => exact ⟨_, ((t250 != t252)), (by first | rfl | (simp; done) | (simp [*]; done)), H', ⟨by have := HK1.out; first | omega | exact Nat.le_refl _⟩, ⟨by (with_reducible repeat (first | apply Kd.S_alloc | apply Kd.S_drewN | apply Kd.S_drew)); exact HO_233001.out⟩, ⟨by (with_reducible repeat (first | apply Kd.S_alloc | apply Kd.S_drewN | apply Kd.S_drew)); exact HO_234001.out⟩, ⟨by (with_reducible repeat (first | apply Kd.S_alloc | apply Kd.S_drewN | apply Kd.S_drew)); exact Kd.S_mono HO_235001.out (fun _ hk => hk.2)⟩, ⟨by (with_reducible repeat (first | refine blk_drewN ?_ _ | refine blk_drew ?_ | refine blk_alloc ?_ _)); exact BK222.out⟩, ⟨by (with_reducible repeat (first | refine blk_drewN ?_ _ | refine blk_drew ?_ | refine blk_alloc ?_ _)); exact BK223.out⟩, ⟨by (with_reducible repeat (first | refine blk_drewN ?_ _ | refine blk_drew ?_ | refine blk_alloc ?_ _)); exact BK232.out⟩, ⟨by (with_reducible repeat (first | refine blk_drewN ?_ _ | refine blk_drew ?_ | refine blk_alloc ?_ _)); exact BK233.out⟩, ⟨by (with_reducible repeat (first | refine blk_drewN ?_ _ | refine blk_drew ?_ | refine blk_alloc ?_ _)); exact BK234.out⟩, ⟨bb⟩⟩
      ·rw [if_neg c85] at H
       have c85b0 : (t249 == t251) = false := beq_eq_false_iff_ne.mpr c85
       have c85b1 : (t249 != t251) = true := bne_iff_ne.mpr c85
       (first | rw [c85b0] | (simp only [i64_w, i32_w]; rw [c85b0]) | skip)
       have H' := Aside0.mk H
       clear H
       go_wp2_with (first | ((with_reducible refine gate_callee (f := 17) rfl ?_); refine goesL_ (some 76) rfl rfl Try.func17 (by kernel_rfl) rfl #[] rfl ag ?_; (with_reducible refine (precinctlaw12_wakes.calls  true _ A83.out).mono ?_); rintro e w87 ⟨rfl, hb⟩; refine ⟨_, rfl, ?_⟩; have n0_ := Aside0.mk (Kd.S_below (by (with_reducible repeat (first | apply Kd.S_alloc | apply Kd.S_drewN | apply Kd.S_drew)); exact HO_31.out) hb); have n1_ := Aside0.mk (Kd.S_below (by (with_reducible repeat (first | apply Kd.S_alloc | apply Kd.S_drewN | apply Kd.S_drew)); exact HO_233001.out) hb); have n2_ := Aside0.mk (Kd.S_below (by (with_reducible repeat (first | apply Kd.S_alloc | apply Kd.S_drewN | apply Kd.S_drew)); exact HO_234001.out) hb); have n3_ := Aside0.mk (Kd.S_below (by (with_reducible repeat (first | apply Kd.S_alloc | apply Kd.S_drewN | apply Kd.S_drew)); exact HO_235001.out) hb); have n4_ := Aside0.mk (blk_below (rb BK222.out) hb); have n5_ := Aside0.mk (blk_below (rb BK223.out) hb); have n6_ := Aside0.mk (blk_below (rb BK232.out) hb); have n7_ := Aside0.mk (blk_below (rb BK233.out) hb); have n8_ := Aside0.mk (blk_below (rb BK234.out) hb); have n9_ := Aside0.mk (below_step bb hb); clear HO_31; clear HO_233001; clear HO_234001; clear HO_235001; clear BK222; clear BK223; clear BK232; clear BK233; clear BK234; clear HB; have HO_31 := n0_; have HO_233001 := n1_; have HO_234001 := n2_; have HO_235001 := n3_; have BK222 := n4_; have BK223 := n5_; have BK232 := n6_; have BK233 := n7_; have BK234 := n8_; have HB := n9_; clear n0_ n1_ n2_ n3_ n4_ n5_ n6_ n7_ n8_ n9_; (try clear hb); (try clear hb2); (try clear hk); (try clear hi)))
       go_meet
       case rel => exact ⟨_, (true), (by first | rfl | (simp; done) | (simp [*]; done)), H', ⟨by have := HK1.out; first | omega | exact Nat.le_refl _⟩, ⟨by (with_reducible repeat (first | apply Kd.S_alloc | apply Kd.S_drewN | apply Kd.S_drew)); exact HO_233001.out⟩, ⟨by (with_reducible repeat (first | apply Kd.S_alloc | apply Kd.S_drewN | apply Kd.S_drew)); exact HO_234001.out⟩, ⟨by (with_reducible repeat (first | apply Kd.S_alloc | apply Kd.S_drewN | apply Kd.S_drew)); exact Kd.S_mono HO_235001.out (fun _ hk => hk.2)⟩, ⟨by (with_reducible repeat (first | refine blk_drewN ?_ _ | refine blk_drew ?_ | refine blk_alloc ?_ _)); exact BK222.out⟩, ⟨by (with_reducible repeat (first | refine blk_drewN ?_ _ | refine blk_drew ?_ | refine blk_alloc ?_ _)); exact BK223.out⟩, ⟨by (with_reducible repeat (first | refine blk_drewN ?_ _ | refine blk_drew ?_ | refine blk_alloc ?_ _)); exact BK232.out⟩, ⟨by (with_reducible repeat (first | refine blk_drewN ?_ _ | refine blk_drew ?_ | refine blk_alloc ?_ _)); exact BK233.out⟩, ⟨by (with_reducible repeat (first | refine blk_drewN ?_ _ | refine blk_drew ?_ | refine blk_alloc ?_ _)); exact BK234.out⟩, ⟨bb⟩⟩
     ·replace c84 := Bool.eq_false_iff.mpr c84
      subst c84
      have H1 : (precinctlaw12_GraphNames.j2 k1 t250 true t224 t225 t224 x235001_1) = some r := by rw [if_neg (show ¬ (false = true) by decide)] at H; exact H
      clear H
      have H := H1
      clear H1
      have H' := Aside0.mk H
      clear H
      go_wp2_with (first | ((with_reducible refine gate_callee (f := 17) rfl ?_); refine goesL_ (some 76) rfl rfl Try.func17 (by kernel_rfl) rfl #[] rfl ag ?_; (with_reducible refine (precinctlaw12_wakes.calls  false _ A83.out).mono ?_); rintro e w88 ⟨rfl, hb⟩; refine ⟨_, rfl, ?_⟩; have n0_ := Aside0.mk (Kd.S_below (by (with_reducible repeat (first | apply Kd.S_alloc | apply Kd.S_drewN | apply Kd.S_drew)); exact HO_31.out) hb); have n1_ := Aside0.mk (Kd.S_below (by (with_reducible repeat (first | apply Kd.S_alloc | apply Kd.S_drewN | apply Kd.S_drew)); exact HO_233001.out) hb); have n2_ := Aside0.mk (Kd.S_below (by (with_reducible repeat (first | apply Kd.S_alloc | apply Kd.S_drewN | apply Kd.S_drew)); exact HO_234001.out) hb); have n3_ := Aside0.mk (Kd.S_below (by (with_reducible repeat (first | apply Kd.S_alloc | apply Kd.S_drewN | apply Kd.S_drew)); exact HO_235001.out) hb); have n4_ := Aside0.mk (blk_below (rb BK222.out) hb); have n5_ := Aside0.mk (blk_below (rb BK223.out) hb); have n6_ := Aside0.mk (blk_below (rb BK232.out) hb); have n7_ := Aside0.mk (blk_below (rb BK233.out) hb); have n8_ := Aside0.mk (blk_below (rb BK234.out) hb); have n9_ := Aside0.mk (below_step bb hb); clear HO_31; clear HO_233001; clear HO_234001; clear HO_235001; clear BK222; clear BK223; clear BK232; clear BK233; clear BK234; clear HB; have HO_31 := n0_; have HO_233001 := n1_; have HO_234001 := n2_; have HO_235001 := n3_; have BK222 := n4_; have BK223 := n5_; have BK232 := n6_; have BK233 := n7_; have BK234 := n8_; have HB := n9_; clear n0_ n1_ n2_ n3_ n4_ n5_ n6_ n7_ n8_ n9_; (try clear hb); (try clear hb2); (try clear hk); (try clear hi)))
      go_meet
      case rel => exact ⟨_, (true), (by first | rfl | (simp; done) | (simp [*]; done)), H', ⟨by have := HK1.out; first | omega | exact Nat.le_refl _⟩, ⟨by (with_reducible repeat (first | apply Kd.S_alloc | apply Kd.S_drewN | apply Kd.S_drew)); exact HO_233001.out⟩, ⟨by (with_reducible repeat (first | apply Kd.S_alloc | apply Kd.S_drewN | apply Kd.S_drew)); exact HO_234001.out⟩, ⟨by (with_reducible repeat (first | apply Kd.S_alloc | apply Kd.S_drewN | apply Kd.S_drew)); exact Kd.S_mono HO_235001.out (fun _ hk => hk.2)⟩, ⟨by (with_reducible repeat (first | refine blk_drewN ?_ _ | refine blk_drew ?_ | refine blk_alloc ?_ _)); exact BK222.out⟩, ⟨by (with_reducible repeat (first | refine blk_drewN ?_ _ | refine blk_drew ?_ | refine blk_alloc ?_ _)); exact BK223.out⟩, ⟨by (with_reducible repeat (first | refine blk_drewN ?_ _ | refine blk_drew ?_ | refine blk_alloc ?_ _)); exact BK232.out⟩, ⟨by (with_reducible repeat (first | refine blk_drewN ?_ _ | refine blk_drew ?_ | refine blk_alloc ?_ _)); exact BK233.out⟩, ⟨by (with_reducible repeat (first | refine blk_drewN ?_ _ | refine blk_drew ?_ | refine blk_alloc ?_ _)); exact BK234.out⟩, ⟨bb⟩⟩
    case rest =>
     clear HC70
     try clear c1
     try clear c2
     try clear p2
     try clear q2
     try clear hx2
     try clear c3
     try clear c4
     try clear c5
     try clear c6
     try clear p6
     try clear c7
     try clear c8
     try clear c11
     try clear c12
     try clear c13
     try clear c14
     try clear c15
     try clear c16
     try clear c17
     try clear c20
     try clear c21
     try clear c22
     try clear c23
     try clear p23
     try clear q23
     try clear hx23
     try clear c24
     try clear p24
     try clear q24
     try clear hx24
     try clear c27
     try clear c27b0
     try clear c28
     try clear c28b0
     try clear c29
     try clear c29b0
     try clear c32
     try clear c33
     try clear c34
     try clear c35
     try clear c36
     try clear c43
     try clear c43b0
     try clear c44
     try clear c44b0
     try clear c45
     try clear c45b0
     try clear c47
     try clear c50
     try clear c52
     try clear c53
     try clear c54
     try clear c55
     try clear c56
     try clear c59
     try clear c60
     try clear c61
     try clear c62
     try clear p64
     try clear c71
     try clear c72
     try clear c73
     try clear c74
     try clear c77
     try clear c78
     try clear c79
     try clear c84
     try clear c85
     try clear c85b0
     try clear c85b1
     try clear hcz14_0
     try clear hcz14_1
     try clear hcz18_0
     try clear hcz18_1
     try clear hcz25_0
     try clear hcz25_1
     try clear hcz26_0
     try clear hcz26_1
     try clear hcz37_0
     try clear hcz37_1
     try clear hcz37_2
     try clear hcz37_3
     try clear hcz37_4
     try clear hcz37_5
     try clear hcz39_0
     try clear hcz39_1
     try clear hcz39_2
     try clear hcz39_3
     try clear hcz39_4
     try clear hcz39_5
     try clear hcz42_0
     try clear hcz42_1
     try clear hcz42_2
     try clear hcz42_3
     try clear hcz42_4
     try clear hcz42_5
     try clear hcz57_0
     try clear hcz57_1
     try clear hcz57_2
     try clear hcz57_3
     try clear hcz57_4
     try clear hcz57_5
     try clear hcz63_0
     try clear hcz63_1
     try clear hcz64_0
     try clear hcz64_1
     try clear hcz64_2
     try clear hcz64_3
     try clear hcz64_4
     try clear hcz64_5
     try clear hcz67_0
     try clear hcz67_1
     try clear hcz75_0
     try clear hcz75_1
     try clear hcz7_0
     try clear hcz7_1
     try clear hcz80_0
     try clear hcz80_1
     try clear hfz14_0
     try clear hfz14_1
     try clear hfz18_0
     try clear hfz18_1
     try clear hfz25_0
     try clear hfz25_1
     try clear hfz26_0
     try clear hfz26_1
     try clear hfz37_0
     try clear hfz37_1
     try clear hfz37_2
     try clear hfz37_3
     try clear hfz37_4
     try clear hfz37_5
     try clear hfz39_0
     try clear hfz39_1
     try clear hfz39_2
     try clear hfz39_3
     try clear hfz39_4
     try clear hfz39_5
     try clear hfz42_0
     try clear hfz42_1
     try clear hfz42_2
     try clear hfz42_3
     try clear hfz42_4
     try clear hfz42_5
     try clear hfz57_0
     try clear hfz57_1
     try clear hfz57_2
     try clear hfz57_3
     try clear hfz57_4
     try clear hfz57_5
     try clear hfz63_0
     try clear hfz63_1
     try clear hfz64_0
     try clear hfz64_1
     try clear hfz64_2
     try clear hfz64_3
     try clear hfz64_4
     try clear hfz64_5
     try clear hfz67_0
     try clear hfz67_1
     try clear hfz75_0
     try clear hfz75_1
     try clear hfz7_0
     try clear hfz7_1
     try clear hfz80_0
     try clear hfz80_1
     try clear hx235_0
     try clear hx235_1
     try clear hx235_2
     try clear hx235_3
     try clear hx235_4
     try clear hx235_5
     try clear hx241_0
     try clear p2
     try clear p23
     try clear p235
     try clear p241
     try clear q2
     try clear q23
     try clear q235
     try clear q241
     obtain ⟨kq, x87_69, rfl, HA, HJ69, HO_233001, HO_234001, HO_235001, BK222, BK223, BK232, BK233, BK234, HB⟩ := hcut
     cases kq with
     | zero => exact absurd HA.out (by simp [precinctlaw12_GraphNames.j2])
     | succ kj69 =>
      have H := HA.out
      clear HA
      simp only [precinctlaw12_GraphNames.j2] at H
      by_cases c89 : x87_69 = true
      ·subst c89
       have H1 : (some false) = some r := by rw [if_pos rfl] at H; exact H
       clear H
       have H := H1
       clear H1
       exact absurd ((Option.some.inj H).trans hT_.out) (by decide)
      ·replace c89 := Bool.eq_false_iff.mpr c89
       subst c89
       have H1 : (if t250 = 0 then ((graph_Masks.f kj69 t224 t225).bind fun t254 => ((graph_Masks.f kj69 t224 x235001_1).bind fun t257 => (precinctlaw12_GraphNames.l2 kj69 t254 t257 (t254.length : Int) 0))) else (some true)) = some r := by rw [if_neg (show ¬ (false = true) by decide)] at H; exact H
       clear H
       have H := H1
       clear H1
       by_cases c90 : t250 = 0
       ·rw [if_pos c90] at H
        have c90b0 : (t250 == 0) = true := beq_iff_eq.mpr c90
        have c90b1 : (t250 != 0) = false := bne_eq_false_iff_eq.mpr c90
        clear c90
        replace H := Option.bind_eq_some_iff.mp H
        obtain ⟨t254, A910, H⟩ := H
        replace H : ((graph_Masks.f kj69 t224 x235001_1).bind fun t257 => (precinctlaw12_GraphNames.l2 kj69 t254 t257 (t254.length : Int) 0)) = some r := H
        have A91 := Aside0.mk A910
        clear A910
        replace H := Option.bind_eq_some_iff.mp H
        obtain ⟨t257, A920, H⟩ := H
        replace H : (precinctlaw12_GraphNames.l2 kj69 t254 t257 (t254.length : Int) 0) = some r := H
        have A92 := Aside0.mk A920
        clear A920
        have H' := Aside0.mk H
        clear H
        try go_wp2
        have n0_ := Aside0.mk (Kd.S_drew HO_233001.out)
        have n1_ := Aside0.mk (Kd.S_drew HO_234001.out)
        have n2_ := Aside0.mk (Kd.S_drew HO_235001.out)
        have n3_ := Aside0.mk (blk_drew BK222.out)
        have n4_ := Aside0.mk (blk_drew BK223.out)
        have n5_ := Aside0.mk (blk_drew BK232.out)
        have n6_ := Aside0.mk (blk_drew BK233.out)
        have n7_ := Aside0.mk (blk_drew BK234.out)
        have n8_ := Aside0.mk (below_drew1 HB.out)
        clear HO_233001
        clear HO_234001
        clear HO_235001
        clear BK222
        clear BK223
        clear BK232
        clear BK233
        clear BK234
        clear HB
        have HO_233001 := n0_
        have HO_234001 := n1_
        have HO_235001 := n2_
        have BK222 := n3_
        have BK223 := n4_
        have BK232 := n5_
        have BK233 := n6_
        have BK234 := n7_
        have HB := n8_
        clear n0_ n1_ n2_ n3_ n4_ n5_ n6_ n7_ n8_
        refine start_ (n := 6) (S := fun w' => w'.cell? ⟨gb232, 0, none⟩ = some (.string t224) ∧ w'.cell? ⟨gb232, 1, none⟩ = some (.slice Ao15 t225.length co15) ∧ w'.cell? ⟨gb234, 0, none⟩ = some (.string t224) ∧ w'.cell? ⟨gb234, 1, none⟩ = some (.slice Ao81 x235001_1.length co81)) (ds := []) #[false, false, false, false, false, false] (by kernel_rfl) rfl rfl ⟨(blk_cell BK232.out 0).trans rfl, (blk_cell BK232.out 1).trans rfl, (blk_cell BK234.out 0).trans rfl, (blk_cell BK234.out 1).trans rfl⟩ (fun hHeld => ?_)
        generalize wc.drew = w93 at HO_233001 HO_234001 HO_235001 BK222 BK223 BK232 BK233 BK234 HB hHeld ⊢
        refine take_ (i := 0) (N := some 90) (v := ?_) (a' := ?_) #[true, false, false, false, false, false] rfl rfl (by kernel_rfl) (fun _ _ _ h => h) (Or.inl ⟨by rfl, ?_⟩) hHeld ?_ ?_
        rotate_left
        ·rintro w' ⟨s0, s1, s2, s3⟩
         go_simp
         with_reducible rfl
        rotate_left
        ·simp only [Act.put, List.setIfInBounds_toArray, List.set_cons_zero, List.set_cons_succ, i64_w, i32_w]
         rfl
        refine take_ (i := 2) (N := some 92) (v := ?_) (a' := ?_) #[true, false, true, false, false, false] rfl rfl (by kernel_rfl) (fun _ _ _ h => h) (Or.inl ⟨by rfl, ?_⟩) hHeld ?_ ?_
        rotate_left
        ·rintro w' ⟨s0, s1, s2, s3⟩
         go_simp
         with_reducible rfl
        rotate_left
        ·simp only [Act.put, List.setIfInBounds_toArray, List.set_cons_zero, List.set_cons_succ, i64_w, i32_w]
         rfl
        refine one_ (i := 1) (N := some 91) #[true, true, true, false, false, false] rfl rfl (by kernel_rfl) (by decide) (fun K hK => ?_)
        refine goes_ Try.func18 (by kernel_rfl) rfl #[.agg #[.string t224, .slice Ao15 t225.length co15]] (by rfl) rfl rfl ag ?_
        with_reducible refine (graph_Masks.calls kj69 t224 _ _ t225 t254 _ ?side1 ?side2 A91.out).mono ?_
        (case side1 => repeat (first | exact (Kd.S_reads' HO_233001.out).2.2 | (with_reducible refine Kd.C_alloc ?_ _) | (with_reducible refine Kd.C_drewN ?_ _) | (with_reducible refine Kd.C_drew ?_)))
        (case side2 => exact (Kd.S_reads' HO_233001.out).2.1)
        rintro e w94 ⟨v255, rfl, ho0, hb⟩
        refine ⟨_, rfl, ?_⟩
        have n0_ := Aside0.mk (Kd.S_below (by (with_reducible repeat (first | apply Kd.S_alloc | apply Kd.S_drewN | apply Kd.S_drew)); exact HO_233001.out) hb)
        have n1_ := Aside0.mk (Kd.S_below (by (with_reducible repeat (first | apply Kd.S_alloc | apply Kd.S_drewN | apply Kd.S_drew)); exact HO_234001.out) hb)
        have n2_ := Aside0.mk (Kd.S_below (by (with_reducible repeat (first | apply Kd.S_alloc | apply Kd.S_drewN | apply Kd.S_drew)); exact HO_235001.out) hb)
        have n3_ := Aside0.mk (Kd.R_lower ho0 (below_size bb))
        have n4_ := Aside0.mk (blk_below (rb BK222.out) hb)
        have n5_ := Aside0.mk (blk_below (rb BK223.out) hb)
        have n6_ := Aside0.mk (blk_below (rb BK232.out) hb)
        have n7_ := Aside0.mk (blk_below (rb BK233.out) hb)
        have n8_ := Aside0.mk (blk_below (rb BK234.out) hb)
        have n9_ := Aside0.mk (below_step bb hb)
        clear HO_233001
        clear HO_234001
        clear HO_235001
        clear BK222
        clear BK223
        clear BK232
        clear BK233
        clear BK234
        clear HB
        have HO_233001 := n0_
        have HO_234001 := n1_
        have HO_235001 := n2_
        have HO256 := n3_
        have BK222 := n4_
        have BK223 := n5_
        have BK232 := n6_
        have BK233 := n7_
        have BK234 := n8_
        have HB := n9_
        clear n0_ n1_ n2_ n3_ n4_ n5_ n6_ n7_ n8_ n9_
        (try clear hb)
        (try clear hb2)
        (try clear hk)
        (try clear hi)
        (try clear ho0)
        refine hK.out _ _ ⟨(blk_cell BK232.out 0).trans rfl, (blk_cell BK232.out 1).trans rfl, (blk_cell BK234.out 0).trans rfl, (blk_cell BK234.out 1).trans rfl⟩ (fun hHeld => ?_)
        clear hK K
        refine norm_ (a' := ?_) ?_ ?_
        rotate_left
        ·show Act.put _ (some 91) _ = _
         simp only [Act.put, List.setIfInBounds_toArray, List.set_cons_zero, List.set_cons_succ, i64_w, i32_w]
         rfl
        refine one_ (i := 3) (N := some 93) #[true, true, true, true, false, false] rfl rfl (by kernel_rfl) (by decide) (fun K hK => ?_)
        refine goes_ Try.func18 (by kernel_rfl) rfl #[.agg #[.string t224, .slice Ao81 x235001_1.length co81]] (by rfl) rfl rfl ag ?_
        with_reducible refine (graph_Masks.calls kj69 t224 _ _ x235001_1 t257 _ ?side1 ?side2 A92.out).mono ?_
        (case side1 => repeat (first | exact (Kd.S_reads' HO_235001.out).2.2 | (with_reducible refine Kd.C_alloc ?_ _) | (with_reducible refine Kd.C_drewN ?_ _) | (with_reducible refine Kd.C_drew ?_)))
        (case side2 => exact (Kd.S_reads' HO_235001.out).2.1)
        rintro e w95 ⟨v258, rfl, ho0, hb⟩
        refine ⟨_, rfl, ?_⟩
        have n0_ := Aside0.mk (Kd.S_below (by (with_reducible repeat (first | apply Kd.S_alloc | apply Kd.S_drewN | apply Kd.S_drew)); exact HO_233001.out) hb)
        have n1_ := Aside0.mk (Kd.S_below (by (with_reducible repeat (first | apply Kd.S_alloc | apply Kd.S_drewN | apply Kd.S_drew)); exact HO_234001.out) hb)
        have n2_ := Aside0.mk (Kd.S_below (by (with_reducible repeat (first | apply Kd.S_alloc | apply Kd.S_drewN | apply Kd.S_drew)); exact HO_235001.out) hb)
        have n3_ := Aside0.mk (Kd.R_elder' (kR HO256.out) (Kd.R_base ho0) hb)
        have n4_ := Aside0.mk (Kd.R_lower (Kd.R_new' ho0 (Kd.R_lt (kR HO256.out))) (below_size bb))
        have n5_ := Aside0.mk (blk_below (rb BK222.out) hb)
        have n6_ := Aside0.mk (blk_below (rb BK223.out) hb)
        have n7_ := Aside0.mk (blk_below (rb BK232.out) hb)
        have n8_ := Aside0.mk (blk_below (rb BK233.out) hb)
        have n9_ := Aside0.mk (blk_below (rb BK234.out) hb)
        have n10_ := Aside0.mk (below_step bb hb)
        clear HO_233001
        clear HO_234001
        clear HO_235001
        clear HO256
        clear BK222
        clear BK223
        clear BK232
        clear BK233
        clear BK234
        clear HB
        have HO_233001 := n0_
        have HO_234001 := n1_
        have HO_235001 := n2_
        have HO256 := n3_
        have HO259 := n4_
        have BK222 := n5_
        have BK223 := n6_
        have BK232 := n7_
        have BK233 := n8_
        have BK234 := n9_
        have HB := n10_
        clear n0_ n1_ n2_ n3_ n4_ n5_ n6_ n7_ n8_ n9_ n10_
        (try clear hb)
        (try clear hb2)
        (try clear hk)
        (try clear hi)
        (try clear ho0)
        refine hK.out _ _ ⟨(blk_cell BK232.out 0).trans rfl, (blk_cell BK232.out 1).trans rfl, (blk_cell BK234.out 0).trans rfl, (blk_cell BK234.out 1).trans rfl⟩ (fun hHeld => ?_)
        clear hK K
        refine norm_ (a' := ?_) ?_ ?_
        rotate_left
        ·show Act.put _ (some 93) _ = _
         simp only [Act.put, List.setIfInBounds_toArray, List.set_cons_zero, List.set_cons_succ, i64_w, i32_w]
         rfl
        refine pure_ (i := 4) (N := some 18) (v := ?_) (a' := ?_) #[true, true, true, true, true, false] rfl rfl (by kernel_rfl) (fun _ _ _ h => h) (Or.inl ⟨by rfl, ?_⟩) ?_ ?_
        rotate_left
        ·intro w'
         go_simp
         with_reducible rfl
        rotate_left
        ·simp only [Act.put, List.setIfInBounds_toArray, List.set_cons_zero, List.set_cons_succ, i64_w, i32_w]
         rfl
        refine pure_ (i := 5) (N := some 19) (v := ?_) (a' := ?_) #[true, true, true, true, true, true] rfl rfl (by kernel_rfl) (fun _ _ _ h => h) (Or.inl ⟨by rfl, ?_⟩) ?_ ?_
        rotate_left
        ·intro w'
         go_simp
         with_reducible rfl
        rotate_left
        ·simp only [Act.put, List.setIfInBounds_toArray, List.set_cons_zero, List.set_cons_succ, i64_w, i32_w]
         rfl
        refine done_ (by kernel_rfl) ?_
        obtain ⟨Ao96, co96, eo96⟩ := Kd.R_slice HO256.out
        subst eo96
        try go_wp2
        go_loopg [96] kj69 (fun kq v96 w' => ∃ (x96_3 : Int), v96 = .int .i64 x96_3 ∧ Aside0 (precinctlaw12_GraphNames.l2 kq t254 t257 (t254.length : Int) x96_3 = some r) ∧ Aside0 (kq ≤ kj69) ∧ Aside0 (Kd.R (Kd.int .u32) 43 w' w.heap.size (fun k_ => some k_ ≠ (v258 : Value).ownBlock) (.slice Ao96 t254.length co96) t254) ∧ Aside0 (Kd.R (Kd.int .u32) 43 w' w.heap.size (fun k_ => some k_ ≠ ((.slice Ao96 t254.length co96) : Value).ownBlock) v258 t257) ∧ Aside0 (Kd.S k48 48 w' w.heap.size (fun k_ => some k_ ≠ ((.slice Ao81 x235001_1.length co81) : Value).ownBlock) (.slice Ao15 t225.length co15) t225) ∧ Aside0 (Kd.S k125 125 w' w.heap.size (fun _ => True) (.slice Ao19 t229.length co19) t229) ∧ Aside0 (Kd.S k48 48 w' w.heap.size (fun k_ => some k_ ≠ ((.slice Ao15 t225.length co15) : Value).ownBlock) (.slice Ao81 x235001_1.length co81) x235001_1) ∧ Aside0 (w'.heap[gb222]? = some (.cells #[.string a0_0, (.slice A0_1 l0_1.length c0_1)] 24 (0, 0))) ∧ Aside0 (w'.heap[gb223]? = some (.cells #[.int .i64 a1] 3 (0, 0))) ∧ Aside0 (w'.heap[gb232]? = some (.cells #[.string t224, (.slice Ao15 t225.length co15)] 27 (0, 0))) ∧ Aside0 (w'.heap[gb233]? = some (.cells #[.string t228, (.slice Ao19 t229.length co19)] 30 (0, 0))) ∧ Aside0 (w'.heap[gb234]? = some (.cells #[.string t224, (.slice Ao81 x235001_1.length co81)] 27 (0, 0))) ∧ Aside0 (Below w.heap.size w w'))
        case atStart => exact ⟨(0), (by first | rfl | (simp; done) | (simp [*]; done)), H', ⟨Nat.le_refl _⟩, ⟨kR (Kd.R_mono HO256.out (fun _ hk => hk.2))⟩, ⟨kR (Kd.R_mono HO259.out (fun _ hk => hk.2))⟩, ⟨by (with_reducible repeat (first | apply Kd.S_alloc | apply Kd.S_drewN | apply Kd.S_drew)); exact HO_233001.out⟩, ⟨by (with_reducible repeat (first | apply Kd.S_alloc | apply Kd.S_drewN | apply Kd.S_drew)); exact HO_234001.out⟩, ⟨by (with_reducible repeat (first | apply Kd.S_alloc | apply Kd.S_drewN | apply Kd.S_drew)); exact HO_235001.out⟩, ⟨by (with_reducible repeat (first | refine blk_drewN ?_ _ | refine blk_drew ?_ | refine blk_alloc ?_ _)); exact BK222.out⟩, ⟨by (with_reducible repeat (first | refine blk_drewN ?_ _ | refine blk_drew ?_ | refine blk_alloc ?_ _)); exact BK223.out⟩, ⟨by (with_reducible repeat (first | refine blk_drewN ?_ _ | refine blk_drew ?_ | refine blk_alloc ?_ _)); exact BK232.out⟩, ⟨by (with_reducible repeat (first | refine blk_drewN ?_ _ | refine blk_drew ?_ | refine blk_alloc ?_ _)); exact BK233.out⟩, ⟨by (with_reducible repeat (first | refine blk_drewN ?_ _ | refine blk_drew ?_ | refine blk_alloc ?_ _)); exact BK234.out⟩, ⟨bb⟩⟩
        case round =>
         clear H'
         try clear c1
         try clear c2
         try clear p2
         try clear q2
         try clear hx2
         try clear c3
         try clear c4
         try clear c5
         try clear c6
         try clear p6
         try clear c7
         try clear c8
         try clear c9
         try clear c11
         try clear c12
         try clear c13
         try clear c14
         try clear c15
         try clear c16
         try clear c17
         try clear c18
         try clear c20
         try clear c21
         try clear c22
         try clear c23
         try clear p23
         try clear q23
         try clear hx23
         try clear c24
         try clear p24
         try clear q24
         try clear hx24
         try clear c27
         try clear c27b0
         try clear c28
         try clear c28b0
         try clear c29
         try clear c29b0
         try clear c32
         try clear c33
         try clear c34
         try clear c35
         try clear c36
         try clear c43
         try clear c43b0
         try clear c44
         try clear c44b0
         try clear c45
         try clear c45b0
         try clear c47
         try clear c50
         try clear c52
         try clear c53
         try clear c54
         try clear c55
         try clear c56
         try clear c59
         try clear c60
         try clear c61
         try clear c62
         try clear p64
         try clear c71
         try clear c72
         try clear c73
         try clear c74
         try clear c77
         try clear c78
         try clear c79
         try clear c84
         try clear c85
         try clear c85b0
         try clear c85b1
         try clear c89
         try clear c90
         try clear c90b0
         try clear c90b1
         try clear hcz14_0
         try clear hcz14_1
         try clear hcz18_0
         try clear hcz18_1
         try clear hcz25_0
         try clear hcz25_1
         try clear hcz26_0
         try clear hcz26_1
         try clear hcz37_0
         try clear hcz37_1
         try clear hcz37_2
         try clear hcz37_3
         try clear hcz37_4
         try clear hcz37_5
         try clear hcz39_0
         try clear hcz39_1
         try clear hcz39_2
         try clear hcz39_3
         try clear hcz39_4
         try clear hcz39_5
         try clear hcz42_0
         try clear hcz42_1
         try clear hcz42_2
         try clear hcz42_3
         try clear hcz42_4
         try clear hcz42_5
         try clear hcz57_0
         try clear hcz57_1
         try clear hcz57_2
         try clear hcz57_3
         try clear hcz57_4
         try clear hcz57_5
         try clear hcz63_0
         try clear hcz63_1
         try clear hcz64_0
         try clear hcz64_1
         try clear hcz64_2
         try clear hcz64_3
         try clear hcz64_4
         try clear hcz64_5
         try clear hcz67_0
         try clear hcz67_1
         try clear hcz75_0
         try clear hcz75_1
         try clear hcz7_0
         try clear hcz7_1
         try clear hcz80_0
         try clear hcz80_1
         try clear hfz14_0
         try clear hfz14_1
         try clear hfz18_0
         try clear hfz18_1
         try clear hfz25_0
         try clear hfz25_1
         try clear hfz26_0
         try clear hfz26_1
         try clear hfz37_0
         try clear hfz37_1
         try clear hfz37_2
         try clear hfz37_3
         try clear hfz37_4
         try clear hfz37_5
         try clear hfz39_0
         try clear hfz39_1
         try clear hfz39_2
         try clear hfz39_3
         try clear hfz39_4
         try clear hfz39_5
         try clear hfz42_0
         try clear hfz42_1
         try clear hfz42_2
         try clear hfz42_3
         try clear hfz42_4
         try clear hfz42_5
         try clear hfz57_0
         try clear hfz57_1
         try clear hfz57_2
         try clear hfz57_3
         try clear hfz57_4
         try clear hfz57_5
         try clear hfz63_0
         try clear hfz63_1
         try clear hfz64_0
         try clear hfz64_1
         try clear hfz64_2
         try clear hfz64_3
         try clear hfz64_4
         try clear hfz64_5
         try clear hfz67_0
         try clear hfz67_1
         try clear hfz75_0
         try clear hfz75_1
         try clear hfz7_0
         try clear hfz7_1
         try clear hfz80_0
         try clear hfz80_1
         try clear hx235_0
         try clear hx235_1
         try clear hx235_2
         try clear hx235_3
         try clear hx235_4
         try clear hx235_5
         try clear hx241_0
         try clear p2
         try clear p23
         try clear p235
         try clear p24
         try clear p241
         try clear p6
         try clear p64
         try clear q2
         try clear q23
         try clear q235
         try clear q24
         try clear q241
         obtain ⟨x96_3, rfl, HA, HK3, HO_18, HO_19, HO_233001, HO_234001, HO_235001, BK222, BK223, BK232, BK233, BK234, HB⟩ := hrel
         cases gk with
         | zero => exact absurd HA.out (by simp [precinctlaw12_GraphNames.l2])
         | succ k3 =>
          have H := HA.out
          clear HA
          simp only [precinctlaw12_GraphNames.l2] at H
          by_cases c97 : x96_3 < (t254.length : Int)
          ·rw [if_pos c97] at H
           have c97b0 : decide (x96_3 < (t254.length : Int)) = true := decide_eq_true c97
           clear c97
           by_cases c98 : x96_3 ≥ (t257.length : Int)
           ·rw [if_pos c98] at H
            have c98b0 : decide ((t257.length : Int) ≤ x96_3) = true := decide_eq_true c98
            clear c98
            exact absurd ((Option.some.inj H).trans hT_.out) (by decide)
           ·rw [if_neg c98] at H
            have c98b0 : decide ((t257.length : Int) ≤ x96_3) = false := decide_eq_false c98
            clear c98
            by_cases c99 : 0 ≤ x96_3
            ·rw [if_pos c99] at H
             have c99b0 : decide (0 ≤ x96_3) = true := decide_eq_true c99
             clear c99
             by_cases c100 : x96_3 < (t254.length : Int)
             ·rw [if_pos c100] at H
              have c100b0 : decide (x96_3 < (t254.length : Int)) = true := decide_eq_true c100
              clear c100
              by_cases c101 : x96_3 < (t257.length : Int)
              ·rw [if_pos c101] at H
               have c101b0 : decide (x96_3 < (t257.length : Int)) = true := decide_eq_true c101
               clear c101
               by_cases c102 : (rd t254 x96_3) = (rd t257 x96_3)
               ·rw [if_pos c102] at H
                have c102b0 : ((rd t254 x96_3) == (rd t257 x96_3)) = true := beq_iff_eq.mpr c102
                have c102b1 : ((rd t254 x96_3) != (rd t257 x96_3)) = false := bne_eq_false_iff_eq.mpr c102
                clear c102
                have H' := Aside0.mk H
                clear H
                try go_wp2
                have n0_ := Aside0.mk (Kd.R_drew HO_18.out)
                have n1_ := Aside0.mk (Kd.R_drew HO_19.out)
                have n2_ := Aside0.mk (Kd.S_drew HO_233001.out)
                have n3_ := Aside0.mk (Kd.S_drew HO_234001.out)
                have n4_ := Aside0.mk (Kd.S_drew HO_235001.out)
                have n5_ := Aside0.mk (blk_drew BK222.out)
                have n6_ := Aside0.mk (blk_drew BK223.out)
                have n7_ := Aside0.mk (blk_drew BK232.out)
                have n8_ := Aside0.mk (blk_drew BK233.out)
                have n9_ := Aside0.mk (blk_drew BK234.out)
                have n10_ := Aside0.mk (below_drew1 HB.out)
                clear HO_18
                clear HO_19
                clear HO_233001
                clear HO_234001
                clear HO_235001
                clear BK222
                clear BK223
                clear BK232
                clear BK233
                clear BK234
                clear HB
                have HO_18 := n0_
                have HO_19 := n1_
                have HO_233001 := n2_
                have HO_234001 := n3_
                have HO_235001 := n4_
                have BK222 := n5_
                have BK223 := n6_
                have BK232 := n7_
                have BK233 := n8_
                have BK234 := n9_
                have HB := n10_
                clear n0_ n1_ n2_ n3_ n4_ n5_ n6_ n7_ n8_ n9_ n10_
                obtain ⟨Ao104, co104, eo104⟩ := Kd.R_slice HO_19.out
                (first | subst eo104 | (injection eo104 with f1_ f2_ f3_; have f4_ := f1_.symm; have f5_ := f3_.symm; clear f1_ f2_ f3_; subst f4_; subst f5_))
                have p260 : 0 ≤ (x96_3 : Int) := of_decide_eq_true (by first | (with_reducible assumption) | assumption)
                have q260 : x96_3 < (t254.length : Int) := of_decide_eq_true (by first | (with_reducible assumption) | assumption)
                obtain ⟨ad260, e260, hx260_0⟩ := Kd.at_int (Kd.R_reads' HO_18.out).2.2 x96_3 p260 q260
                cases e260
                replace p260 := eq_true p260
                replace q260 := eq_true q260
                have p261 : 0 ≤ (x96_3 : Int) := of_decide_eq_true (by first | (with_reducible assumption) | assumption)
                have q261 : x96_3 < (t257.length : Int) := of_decide_eq_true (by first | (with_reducible assumption) | assumption)
                obtain ⟨ad261, e261, hx261_0⟩ := Kd.at_int (Kd.R_reads' HO_19.out).2.2 x96_3 p261 q261
                cases e261
                replace p261 := eq_true p261
                replace q261 := eq_true q261
                refine start_ (n := 15) (S := fun w' => w'.cell? (ad260.add (x96_3).toNat) = some (.int .u32 (rd t254 x96_3)) ∧ w'.cell? (ad261.add (x96_3).toNat) = some (.int .u32 (rd t257 x96_3))) (ds := []) #[false, false, false, false, false, false, false, false, false, false, false, false, false, false, false] (by kernel_rfl) rfl rfl ⟨hx260_0, hx261_0⟩ (fun hHeld => ?_); refine with_tabW precinctlaw12_GraphNames.tab27 precinctlaw12_GraphNames.bits27 (fun HT_ HW_ => ?_)
                generalize wr.drew = w103 at HO_18 HO_19 HO_233001 HO_234001 HO_235001 BK222 BK223 BK232 BK233 BK234 HB hx260_0 hx261_0 hHeld ⊢
                refine pure_ (i := 0) (N := some 99) (v := ?_) (a' := ?_) #[true, false, false, false, false, false, false, false, false, false, false, false, false, false, false] rfl rfl (any_of HT_.out (by kernel_rfl)) (fun _ _ _ h => h) (Or.inl ⟨by rfl, ?_⟩) ?_ ?_
                rotate_left
                ·intro w'
                 go_simp
                 with_reducible rfl
                rotate_left
                ·simp only [Act.put, List.setIfInBounds_toArray, List.set_cons_zero, List.set_cons_succ, i64_w, i32_w]
                 rfl
                refine pure_ (i := 1) (N := some 100) (v := ?_) (a' := ?_) #[true, true, false, false, false, false, false, false, false, false, false, false, false, false, false] rfl rfl (any_of HT_.out (by kernel_rfl)) (fun _ _ _ h => h) (Or.inl ⟨by rfl, ?_⟩) ?_ ?_
                rotate_left
                ·intro w'
                 go_simp
                 with_reducible rfl
                rotate_left
                ·simp only [Act.put, List.setIfInBounds_toArray, List.set_cons_zero, List.set_cons_succ, i64_w, i32_w]
                 rfl
                refine pure_ (i := 2) (N := some 101) (v := ?_) (a' := ?_) #[true, true, true, false, false, false, false, false, false, false, false, false, false, false, false] rfl rfl (any_of HT_.out (by kernel_rfl)) (fun _ _ _ h => h) (Or.inl ⟨by rfl, ?_⟩) ?_ ?_
                rotate_left
                ·intro w'
                 go_simp
                 with_reducible rfl
                rotate_left
                ·simp only [Act.put, List.setIfInBounds_toArray, List.set_cons_zero, List.set_cons_succ, i64_w, i32_w]
                 rfl
                refine pure_ (i := 3) (N := some 102) (v := ?_) (a' := ?_) #[true, true, true, true, false, false, false, false, false, false, false, false, false, false, false] rfl rfl (any_of HT_.out (by kernel_rfl)) (fun _ _ _ h => h) (Or.inl ⟨by rfl, ?_⟩) ?_ ?_
                rotate_left
                ·intro w'
                 go_simp
                 with_reducible rfl
                rotate_left
                ·simp only [Act.put, List.setIfInBounds_toArray, List.set_cons_zero, List.set_cons_succ, i64_w, i32_w]
                 rfl
                refine pure_ (i := 4) (N := some 103) (v := ?_) (a' := ?_) #[true, true, true, true, true, false, false, false, false, false, false, false, false, false, false] rfl rfl (any_of HT_.out (by kernel_rfl)) (fun _ _ _ h => h) (Or.inl ⟨by rfl, ?_⟩) ?_ ?_
                rotate_left
                ·intro w'
                 go_simp
                 with_reducible rfl
                rotate_left
                ·simp only [Act.put, List.setIfInBounds_toArray, List.set_cons_zero, List.set_cons_succ, i64_w, i32_w]
                 rfl
                refine pure_ (i := 5) (N := some 104) (v := ?_) (a' := ?_) #[true, true, true, true, true, true, false, false, false, false, false, false, false, false, false] rfl rfl (any_of HT_.out (by kernel_rfl)) (fun _ _ _ h => h) (Or.inl ⟨by rfl, ?_⟩) ?_ ?_
                rotate_left
                ·intro w'
                 go_simp
                 with_reducible rfl
                rotate_left
                ·simp only [Act.put, List.setIfInBounds_toArray, List.set_cons_zero, List.set_cons_succ, i64_w, i32_w]
                 rfl
                refine pure_ (i := 6) (N := some 105) (v := ?_) (a' := ?_) #[true, true, true, true, true, true, true, false, false, false, false, false, false, false, false] rfl rfl (any_of HT_.out (by kernel_rfl)) (fun _ _ _ h => h) (Or.inl ⟨by rfl, ?_⟩) ?_ ?_
                rotate_left
                ·intro w'
                 go_simp
                 with_reducible rfl
                rotate_left
                ·simp only [Act.put, List.setIfInBounds_toArray, List.set_cons_zero, List.set_cons_succ, i64_w, i32_w]
                 rfl
                refine pure_ (i := 7) (N := some 106) (v := ?_) (a' := ?_) #[true, true, true, true, true, true, true, true, false, false, false, false, false, false, false] rfl rfl (any_of HT_.out (by kernel_rfl)) (fun _ _ _ h => h) (Or.inl ⟨by rfl, ?_⟩) ?_ ?_
                rotate_left
                ·intro w'
                 go_simp
                 with_reducible rfl
                rotate_left
                ·simp only [Act.put, List.setIfInBounds_toArray, List.set_cons_zero, List.set_cons_succ, i64_w, i32_w]
                 rfl
                refine pure_ (i := 9) (N := some 108) (v := ?_) (a' := ?_) #[true, true, true, true, true, true, true, true, false, true, false, false, false, false, false] rfl rfl (any_of HT_.out (by kernel_rfl)) (fun _ _ _ h => h) (Or.inl ⟨by rfl, ?_⟩) ?_ ?_
                rotate_left
                ·intro w'
                 go_simp
                 with_reducible rfl
                rotate_left
                ·simp only [Act.put, List.setIfInBounds_toArray, List.set_cons_zero, List.set_cons_succ, i64_w, i32_w]
                 rfl
                refine pure_ (i := 10) (N := some 109) (v := ?_) (a' := ?_) #[true, true, true, true, true, true, true, true, false, true, true, false, false, false, false] rfl rfl (any_of HT_.out (by kernel_rfl)) (fun _ _ _ h => h) (Or.inl ⟨by rfl, ?_⟩) ?_ ?_
                rotate_left
                ·intro w'
                 go_simp
                 with_reducible rfl
                rotate_left
                ·simp only [Act.put, List.setIfInBounds_toArray, List.set_cons_zero, List.set_cons_succ, i64_w, i32_w]
                 rfl
                refine pure_ (i := 11) (N := some 110) (v := ?_) (a' := ?_) #[true, true, true, true, true, true, true, true, false, true, true, true, false, false, false] rfl rfl (any_of HT_.out (by kernel_rfl)) (fun _ _ _ h => h) (Or.inl ⟨by rfl, ?_⟩) ?_ ?_
                rotate_left
                ·intro w'
                 go_simp
                 with_reducible rfl
                rotate_left
                ·simp only [Act.put, List.setIfInBounds_toArray, List.set_cons_zero, List.set_cons_succ, i64_w, i32_w]
                 rfl
                refine take_ (i := 8) (N := some 107) (v := ?_) (a' := ?_) #[true, true, true, true, true, true, true, true, true, true, true, true, false, false, false] rfl rfl (take_ofW HT_.out HW_.out (by kernel_rfl)) (fun _ _ _ h => h) (Or.inl ⟨by rfl, ?_⟩) hHeld ?_ ?_
                rotate_left
                ·rintro w' ⟨s0, s1⟩
                 go_simp
                 with_reducible rfl
                rotate_left
                ·simp only [Act.put, List.setIfInBounds_toArray, List.set_cons_zero, List.set_cons_succ, i64_w, i32_w]
                 rfl
                refine take_ (i := 12) (N := some 111) (v := ?_) (a' := ?_) #[true, true, true, true, true, true, true, true, true, true, true, true, true, false, false] rfl rfl (take_ofW HT_.out HW_.out (by kernel_rfl)) (fun _ _ _ h => h) (Or.inl ⟨by rfl, ?_⟩) hHeld ?_ ?_
                rotate_left
                ·rintro w' ⟨s0, s1⟩
                 go_simp
                 with_reducible rfl
                rotate_left
                ·simp only [Act.put, List.setIfInBounds_toArray, List.set_cons_zero, List.set_cons_succ, i64_w, i32_w]
                 rfl
                refine pure_ (i := 13) (N := some 112) (v := ?_) (a' := ?_) #[true, true, true, true, true, true, true, true, true, true, true, true, true, true, false] rfl rfl (any_of HT_.out (by kernel_rfl)) (fun _ _ _ h => h) (Or.inl ⟨by rfl, ?_⟩) ?_ ?_
                rotate_left
                ·intro w'
                 go_simp
                 with_reducible rfl
                rotate_left
                ·simp only [Act.put, List.setIfInBounds_toArray, List.set_cons_zero, List.set_cons_succ, i64_w, i32_w]
                 rfl
                refine pure_ (i := 14) (N := some 113) (v := ?_) (a' := ?_) #[true, true, true, true, true, true, true, true, true, true, true, true, true, true, true] rfl rfl (any_of HT_.out (by kernel_rfl)) (fun _ _ _ h => h) (Or.inl ⟨by rfl, ?_⟩) ?_ ?_
                rotate_left
                ·intro w'
                 go_simp
                 with_reducible rfl
                rotate_left
                ·simp only [Act.put, List.setIfInBounds_toArray, List.set_cons_zero, List.set_cons_succ, i64_w, i32_w]
                 rfl
                refine done_ (done_of HT_.out (by kernel_rfl)) ?_
                try go_wp2
                go_roundg k3
                case measure => have := HK1.out; have := HJ69.out; have := HK3.out; omega
                case rel => exact ⟨(wrap64 (x96_3 + 1)), (by first | rfl | (simp; done) | (simp [*]; done)), H', ⟨by have := HK1.out; have := HJ69.out; have := HK3.out; omega⟩, ⟨kR HO_18.out⟩, ⟨kR HO_19.out⟩, ⟨by (with_reducible repeat (first | apply Kd.S_alloc | apply Kd.S_drewN | apply Kd.S_drew)); exact HO_233001.out⟩, ⟨by (with_reducible repeat (first | apply Kd.S_alloc | apply Kd.S_drewN | apply Kd.S_drew)); exact HO_234001.out⟩, ⟨by (with_reducible repeat (first | apply Kd.S_alloc | apply Kd.S_drewN | apply Kd.S_drew)); exact HO_235001.out⟩, ⟨by (with_reducible repeat (first | refine blk_drewN ?_ _ | refine blk_drew ?_ | refine blk_alloc ?_ _)); exact BK222.out⟩, ⟨by (with_reducible repeat (first | refine blk_drewN ?_ _ | refine blk_drew ?_ | refine blk_alloc ?_ _)); exact BK223.out⟩, ⟨by (with_reducible repeat (first | refine blk_drewN ?_ _ | refine blk_drew ?_ | refine blk_alloc ?_ _)); exact BK232.out⟩, ⟨by (with_reducible repeat (first | refine blk_drewN ?_ _ | refine blk_drew ?_ | refine blk_alloc ?_ _)); exact BK233.out⟩, ⟨by (with_reducible repeat (first | refine blk_drewN ?_ _ | refine blk_drew ?_ | refine blk_alloc ?_ _)); exact BK234.out⟩, ⟨bb⟩⟩
               ·rw [if_neg c102] at H
                have c102b0 : ((rd t254 x96_3) == (rd t257 x96_3)) = false := beq_eq_false_iff_ne.mpr c102
                have c102b1 : ((rd t254 x96_3) != (rd t257 x96_3)) = true := bne_iff_ne.mpr c102
                exact absurd ((Option.some.inj H).trans hT_.out) (by decide)
              ·rw [if_neg c101] at H
               exact absurd H (by simp)
             ·rw [if_neg c100] at H
              exact absurd H (by simp)
            ·rw [if_neg c99] at H
             exact absurd H (by simp)
          ·rw [if_neg c97] at H
           have c97b0 : decide (x96_3 < (t254.length : Int)) = false := decide_eq_false c97
           clear c97
           obtain rfl := Option.some.inj H
           obtain ⟨Ao105, co105, eo105⟩ := Kd.R_slice HO_19.out
           subst eo105
           go_wp2
           go_ret
           exact ⟨by first | rfl | (simp [errW_none, errW_some] <;> rfl) | (simp [*, errW_none, errW_some] <;> rfl), bb⟩
       ·rw [if_neg c90] at H
        have c90b0 : (t250 == 0) = false := beq_eq_false_iff_ne.mpr c90
        have c90b1 : (t250 != 0) = true := bne_iff_ne.mpr c90
        obtain rfl := Option.some.inj H
        go_wp2
        go_ret
        exact ⟨by first | rfl | (simp [errW_none, errW_some] <;> rfl) | (simp [*, errW_none, errW_some] <;> rfl), bb⟩

end Go.Proofs.Ytjicfkmpgogppaa.PG
