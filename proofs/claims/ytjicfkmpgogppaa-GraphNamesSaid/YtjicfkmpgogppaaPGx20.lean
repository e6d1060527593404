-- printed by a program of this session out of the translation; see NOTES.md
import Derived.Test.YtjicfkmpgogppaaPGx0
import Derived.Test.YtjicfkmpgogppaaPGx1
import Derived.Test.YtjicfkmpgogppaaPGx4
import Derived.Test.YtjicfkmpgogppaaPGx16
import Derived.Test.YtjicfkmpgogppaaPGx17
import Derived.Test.YtjicfkmpgogppaaPGx19
import Derived.Test.YtjicfkmpgogppaaRb
namespace Go.Proofs.Ytjicfkmpgogppaa.PG
open Go.RowKit Go.Proofs.YtjicfkmpgogppaaW.PrintWords Go.Proofs.YtjicfkmpgogppaaW.PrintLast Go.Proofs.YtjicfkmpgogppaaW.PrintMore Go.Proofs.YtjicfkmpgogppaaRb
attribute [local go_sem] max2_int min2_int max_two min_two max_three min_three max_four min_four   -- for this text's walks alone
set_option linter.unusedVariables false
set_option linter.unusedSimpArgs false

/-! ### precinctlaw12_GraphMasks: function 4 -/
mutual
def precinctlaw12_GraphMasks.j0 : Nat → Bool → ByteArray → List (S48) → ByteArray → List (S125) → Option (Bool)
 | 0, _, _, _, _, _ => none
 | k + 1, x25, x209000, x209001, x210000, x210001 => if x25 = true then ((precinctlaw12_wakes.f).bind fun t213 => (some t213)) else ((graph_Masks.f k x209000 x209001).bind fun t214 => ((precinctref12_Masks.f k x210000 x210001).bind fun t217 => (if (t214.length : Int) = (t217.length : Int) then (precinctlaw12_GraphMasks.l0 k t214 t217 (t214.length : Int) 0) else (some false))))
def precinctlaw12_GraphMasks.l0 : Nat → List Int → List Int → Int → Int → Option (Bool)
 | 0, _, _, _, _ => none
 | k + 1, x7, x8, x37, x38 => if x38 < x37 then (if 0 ≤ x38 then (if x38 < (x7.length : Int) then (if x38 < (x8.length : Int) then (if (rd x7 x38) = (rd x8 x38) then (precinctlaw12_GraphMasks.l0 k x7 x8 x37 (wrap64 (x38 + 1))) else (some false)) else (none)) else (none)) else (none)) else (some true)
end
def precinctlaw12_GraphMasks.f (k : Nat) (a0_0 : ByteArray) (l0_1 : List (S124)) : Option (Bool) := (precinctlaw12_flows.f a0_0 l0_1).bind fun bt200 => ((precinctref12_Check.f k bt200.2.2.1 bt200.2.2.2).bind fun bt210 => ((precinctlaw12_wakes.f).bind fun t212 => (if t212 = true then (precinctlaw12_GraphMasks.j0 k (bt210.2 != 0) bt200.1 bt200.2.1 bt200.2.2.1 bt200.2.2.2) else (precinctlaw12_GraphMasks.j0 k true bt200.1 bt200.2.1 bt200.2.2.1 bt200.2.2.2))))
theorem precinctlaw12_GraphMasks.mono_l : ∀ k, (∀ y0 y1 y2 y3 y4, LeO (precinctlaw12_GraphMasks.j0 k y0 y1 y2 y3 y4) (precinctlaw12_GraphMasks.j0 (k + 1) y0 y1 y2 y3 y4)) ∧ (∀ y0 y1 y2 y3, LeO (precinctlaw12_GraphMasks.l0 k y0 y1 y2 y3) (precinctlaw12_GraphMasks.l0 (k + 1) y0 y1 y2 y3))
 | 0 => ⟨fun _ _ _ _ _ r h => by simp [precinctlaw12_GraphMasks.j0] at h, fun _ _ _ _ r h => by simp [precinctlaw12_GraphMasks.l0] at h⟩
 | k + 1 => by
  obtain ⟨ih0, ih1⟩ := precinctlaw12_GraphMasks.mono_l k
  refine ⟨?_, ?_⟩
  ·intro y0 y1 y2 y3 y4
   unfold precinctlaw12_GraphMasks.j0
   repeat' first
   | (with_reducible exact ih0 _ _ _ _ _)
   | (with_reducible exact ih1 _ _ _ _)
   | (with_reducible exact graph_Masks.mono _ _ _)
   | (with_reducible exact precinctref12_Check.mono _ _ _)
   | (with_reducible exact precinctref12_Masks.mono _ _ _)
   | (with_reducible exact LeO.refl _)
   | (with_reducible exact LeO.none _)
   | (with_reducible refine LeO.ite ?_ ?_)
   | (with_reducible refine LeO.bind ?_ (fun _ => ?_))
   | exact ih0 _ _ _ _ _
   | exact ih1 _ _ _ _
   | exact graph_Masks.mono _ _ _
   | exact precinctref12_Check.mono _ _ _
   | exact precinctref12_Masks.mono _ _ _
   | exact LeO.none _
   | refine LeO.ite ?_ ?_
   | refine LeO.bind ?_ (fun _ => ?_)
  ·intro y0 y1 y2 y3
   unfold precinctlaw12_GraphMasks.l0
   repeat' first
   | (with_reducible exact ih0 _ _ _ _ _)
   | (with_reducible exact ih1 _ _ _ _)
   | (with_reducible exact graph_Masks.mono _ _ _)
   | (with_reducible exact precinctref12_Check.mono _ _ _)
   | (with_reducible exact precinctref12_Masks.mono _ _ _)
   | (with_reducible exact LeO.refl _)
   | (with_reducible exact LeO.none _)
   | (with_reducible refine LeO.ite ?_ ?_)
   | (with_reducible refine LeO.bind ?_ (fun _ => ?_))
   | exact ih0 _ _ _ _ _
   | exact ih1 _ _ _ _
   | exact graph_Masks.mono _ _ _
   | exact precinctref12_Check.mono _ _ _
   | exact precinctref12_Masks.mono _ _ _
   | exact LeO.none _
   | refine LeO.ite ?_ ?_
   | refine LeO.bind ?_ (fun _ => ?_)
theorem precinctlaw12_GraphMasks.mono : ∀ a0 a1 k, LeO (precinctlaw12_GraphMasks.f k a0 a1) (precinctlaw12_GraphMasks.f (k + 1) a0 a1) := by
 intro a0 a1 k
 obtain ⟨ih0, ih1⟩ := precinctlaw12_GraphMasks.mono_l k
 unfold precinctlaw12_GraphMasks.f
 repeat' first
   | (with_reducible exact ih0 _ _ _ _ _)
   | (with_reducible exact ih1 _ _ _ _)
   | (with_reducible exact graph_Masks.mono _ _ _)
   | (with_reducible exact precinctref12_Check.mono _ _ _)
   | (with_reducible exact precinctref12_Masks.mono _ _ _)
   | (with_reducible exact LeO.refl _)
   | (with_reducible exact LeO.none _)
   | (with_reducible refine LeO.ite ?_ ?_)
   | (with_reducible refine LeO.bind ?_ (fun _ => ?_))
   | exact ih0 _ _ _ _ _
   | exact ih1 _ _ _ _
   | exact graph_Masks.mono _ _ _
   | exact precinctref12_Check.mono _ _ _
   | exact precinctref12_Masks.mono _ _ _
   | exact LeO.none _
   | refine LeO.ite ?_ ?_
   | refine LeO.bind ?_ (fun _ => ?_)
def precinctlaw12_GraphMasks.T11 : Bool × List (List Nat × List Nat) := (true, [([], []), ([], []), ([0, 1], [0, 1]), ([2], [2]), ([], []), ([], []), ([4, 5], [4, 5]), ([6], [6]), ([3, 7], [3, 7])])
def precinctlaw12_GraphMasks.B11 : List Nat := [0, 0, 3, 7, 0, 0, 48, 112, 255]
theorem precinctlaw12_GraphMasks.tab11 : rtab .any (opsOf Try.f4 11) = precinctlaw12_GraphMasks.T11 := by kernel_rfl
theorem precinctlaw12_GraphMasks.bits11 : waitsOk precinctlaw12_GraphMasks.T11.2 precinctlaw12_GraphMasks.B11 = true := by kernel_rfl
set_option maxHeartbeats 8000000 in
set_option maxRecDepth 100000 in
theorem precinctlaw12_GraphMasks.calls (k : Nat) (a0_0 : ByteArray) (A0_1 : Option Addr) (c0_1 : Nat) (l0_1 : List (S124)) (r : Bool) (w : World) (hr0_1 : Kd.C k124 w A0_1 l0_1.length l0_1) (hc0_1 : l0_1.length ≤ c0_1) (hT_ : Aside0 (r = true)) (h : precinctlaw12_GraphMasks.f k a0_0 l0_1 = some r) :
  Calls Try.prog 4 #[.agg #[.string a0_0, .slice A0_1 l0_1.length c0_1]] w fun e w' => e = .returned (.bool r) ∧ Below w.heap.size w w' := by
 have hu24 := Try.underlying24
 have hu27 := Try.underlying27
 have hu30 := Try.underlying30
 have HR0_1 := Aside0.mk hr0_1
 have HC0_1 := Aside0.mk hc0_1
 clear hr0_1 hc0_1
 have HB := Aside0.mk (Below.refl w.heap.size w)
 have H : ((precinctlaw12_flows.f a0_0 l0_1).bind fun bt200 => ((precinctref12_Check.f k bt200.2.2.1 bt200.2.2.2).bind fun bt210 => ((precinctlaw12_wakes.f).bind fun t212 => (if t212 = true then (precinctlaw12_GraphMasks.j0 k (bt210.2 != 0) bt200.1 bt200.2.1 bt200.2.2.1 bt200.2.2.2) else (precinctlaw12_GraphMasks.j0 k true bt200.1 bt200.2.1 bt200.2.2.1 bt200.2.2.2))))) = some r := h
 clear h
 replace H := Option.bind_eq_some_iff.mp H
 obtain ⟨⟨t200, t201, t204, t205⟩, A20, H⟩ := H
 replace H : ((precinctref12_Check.f k t204 t205).bind fun bt210 => ((precinctlaw12_wakes.f).bind fun t212 => (if t212 = true then (precinctlaw12_GraphMasks.j0 k (bt210.2 != 0) t200 t201 t204 t205) else (precinctlaw12_GraphMasks.j0 k true t200 t201 t204 t205)))) = some r := H
 have A2 := Aside0.mk A20
 clear A20
 replace H := Option.bind_eq_some_iff.mp H
 obtain ⟨⟨t210, t211⟩, A30, H⟩ := H
 replace H : ((precinctlaw12_wakes.f).bind fun t212 => (if t212 = true then (precinctlaw12_GraphMasks.j0 k (t211 != 0) t200 t201 t204 t205) else (precinctlaw12_GraphMasks.j0 k true t200 t201 t204 t205))) = some r := H
 have A3 := Aside0.mk A30
 clear A30
 have HC4 := Aside0.mk H
 clear H
 go_enter Try.func4, Try.ntmps4
 go_upto_region 3 with (first | ((with_reducible refine gate_dst (N := 1) rfl ?_); refine box_event ?hg (N := 1) ?hd (cs := #[.string a0_0, .slice A0_1 l0_1.length c0_1]) (t := 24) ?hr ?_; (case hd => rfl); (case hg => rfl); (case hr => first | (go_simp; done) | (go_simp; rfl)); intro gb199 hg w5 hbox hb; have n0_ := Aside0.mk (below_step bb hb); have n1_ := Aside0.mk (hbox); have n2_ := Aside0.mk ((by rw [hg]; exact (below_size bb) : w.heap.size ≤ gb199)); have n3_ := Aside0.mk ((by rw [hg]; exact (below_size bb) : w.heap.size ≤ gb199)); clear HB; have HB := n0_; have BK199 := n1_; have GW199 := n2_; have GE199 := n3_; clear n0_ n1_ n2_ n3_; clear hb hbox hg; have hcz6_0 : w5.cell? ⟨gb199, 0, none⟩ = some (.string a0_0) := (blk_cell BK199.out 0).trans rfl; have hcz6_1 : w5.cell? ⟨gb199, 1, none⟩ = some (.slice A0_1 l0_1.length c0_1) := (blk_cell BK199.out 1).trans rfl; have hfz6_0 := blk_frozen BK199.out 0; have hfz6_1 := blk_frozen BK199.out 1) | ((with_reducible refine gate_callee (f := 14) rfl ?_); refine goesL_ (some 12) rfl rfl Try.func14 (by kernel_rfl) rfl #[.agg #[.string a0_0, .slice A0_1 l0_1.length c0_1]] rfl ag ?_; (with_reducible refine (precinctlaw12_flows.calls a0_0 _ _ l0_1 t200 t201 t204 t205 _ ?side1 ?side2 A2.out).mono ?_); (case side1 => repeat (first | exact (Kd.C_below HR0_1.out HB.out) | (with_reducible refine Kd.C_alloc ?_ _) | (with_reducible refine Kd.C_drewN ?_ _) | (with_reducible refine Kd.C_drew ?_))); (case side2 => exact HC0_1.out); rintro e w7 ⟨v202, v206, rfl, ho0, ho1, hb⟩; refine ⟨_, rfl, ?_⟩; have n0_ := Aside0.mk (Kd.S_lower ho0 (below_size bb)); have n1_ := Aside0.mk (Kd.S_lower ho1 (below_size bb)); have n2_ := Aside0.mk (blk_below (rb BK199.out) hb); have n3_ := Aside0.mk (below_step bb hb); clear BK199; clear HB; have HO203 := n0_; have HO207 := n1_; have BK199 := n2_; have HB := n3_; clear n0_ n1_ n2_ n3_; (try clear hb); (try clear hb2); (try clear hk); (try clear hi); (try clear ho0); (try clear ho1)) | ((with_reducible refine gate_dst (N := 3) rfl ?_); refine box_event ?hg (N := 3) ?hd (cs := #[.string (⟨#[]⟩ : ByteArray), .slice none 0 0]) (t := 27) ?hr ?_; (case hd => rfl); (case hg => rfl); (case hr => first | (go_simp; done) | (go_simp; rfl)); intro gb208 hg w8 hbox hb; have n0_ := Aside0.mk (Kd.S_below (by (with_reducible repeat (first | apply Kd.S_alloc | apply Kd.S_drewN | apply Kd.S_drew)); exact HO203.out) hb); have n1_ := Aside0.mk (Kd.S_below (by (with_reducible repeat (first | apply Kd.S_alloc | apply Kd.S_drewN | apply Kd.S_drew)); exact HO207.out) hb); have n2_ := Aside0.mk (blk_below (rb BK199.out) hb); have n3_ := Aside0.mk (below_step bb hb); have n4_ := Aside0.mk (hbox); have n5_ := Aside0.mk ((by rw [hg]; exact (below_size bb) : w.heap.size ≤ gb208)); have n6_ := Aside0.mk ((by rw [hg]; exact (below_size bb) : w.heap.size ≤ gb208)); have n7_ := Aside0.mk ((by rw [hg]; exact Nat.ne_of_lt (blk_lt (rb BK199.out)) : gb199 ≠ gb208)); have n8_ := Aside0.mk ((by rw [hg]; exact Nat.ne_of_gt (blk_lt (rb BK199.out)) : gb208 ≠ gb199)); clear HO203; clear HO207; clear BK199; clear HB; have HO203 := n0_; have HO207 := n1_; have BK199 := n2_; have HB := n3_; have BK208 := n4_; have GW208 := n5_; have GE208 := n6_; have NB199_208 := n7_; have NB208_199 := n8_; clear n0_ n1_ n2_ n3_ n4_ n5_ n6_ n7_ n8_; clear hb hbox hg) | ((with_reducible refine gate_dst (N := 4) rfl ?_); refine box_event ?hg (N := 4) ?hd (cs := #[.string (⟨#[]⟩ : ByteArray), .slice none 0 0]) (t := 30) ?hr ?_; (case hd => rfl); (case hg => rfl); (case hr => first | (go_simp; done) | (go_simp; rfl)); intro gb209 hg w9 hbox hb; have n0_ := Aside0.mk (Kd.S_below (by (with_reducible repeat (first | apply Kd.S_alloc | apply Kd.S_drewN | apply Kd.S_drew)); exact HO203.out) hb); have n1_ := Aside0.mk (Kd.S_below (by (with_reducible repeat (first | apply Kd.S_alloc | apply Kd.S_drewN | apply Kd.S_drew)); exact HO207.out) hb); have n2_ := Aside0.mk (blk_below (rb BK199.out) hb); have n3_ := Aside0.mk (blk_below (g := gb208) (o := .cells #[.string (⟨#[]⟩ : ByteArray), .slice none 0 0] 27 (0, 0)) (rb BK208.out) hb); have n4_ := Aside0.mk (below_step bb hb); have n5_ := Aside0.mk (hbox); have n6_ := Aside0.mk ((by rw [hg]; exact (below_size bb) : w.heap.size ≤ gb209)); have n7_ := Aside0.mk ((by rw [hg]; exact (below_size bb) : w.heap.size ≤ gb209)); have n8_ := Aside0.mk ((by rw [hg]; exact Nat.ne_of_lt (blk_lt (rb BK199.out)) : gb199 ≠ gb209)); have n9_ := Aside0.mk ((by rw [hg]; exact Nat.ne_of_gt (blk_lt (rb BK199.out)) : gb209 ≠ gb199)); have n10_ := Aside0.mk ((by rw [hg]; exact Nat.ne_of_lt (blk_lt (g := gb208) (o := .cells #[.string (⟨#[]⟩ : ByteArray), .slice none 0 0] 27 (0, 0)) (rb BK208.out)) : gb208 ≠ gb209)); have n11_ := Aside0.mk ((by rw [hg]; exact Nat.ne_of_gt (blk_lt (g := gb208) (o := .cells #[.string (⟨#[]⟩ : ByteArray), .slice none 0 0] 27 (0, 0)) (rb BK208.out)) : gb209 ≠ gb208)); clear HO203; clear HO207; clear BK199; clear BK208; clear HB; have HO203 := n0_; have HO207 := n1_; have BK199 := n2_; have BK208 := n3_; have HB := n4_; have BK209 := n5_; have GW209 := n6_; have GE209 := n7_; have NB199_209 := n8_; have NB209_199 := n9_; have NB208_209 := n10_; have NB209_208 := n11_; clear n0_ n1_ n2_ n3_ n4_ n5_ n6_ n7_ n8_ n9_ n10_ n11_; clear hb hbox hg; have hnb10 := NB208_199.out; have hnc10 := NB199_208.out; have hnb11 := NB208_209.out; have hnc11 := NB209_208.out; have hcz12_0 : w9.cell? ⟨gb208, 0, none⟩ = some (.string (⟨#[]⟩ : ByteArray)) := (blk_cell BK208.out 0).trans rfl; have hcz12_1 : w9.cell? ⟨gb208, 1, none⟩ = some (.slice none 0 0) := (blk_cell BK208.out 1).trans rfl; have hfz12_0 := blk_frozen BK208.out 0; have hfz12_1 := blk_frozen BK208.out 1; obtain ⟨Ao13, co13, eo13⟩ := Kd.S_slice HO203.out; subst eo13; have hnb14 := NB209_199.out; have hnc14 := NB199_209.out; have hcz15_0 : w9.cell? ⟨gb209, 0, none⟩ = some (.string (⟨#[]⟩ : ByteArray)) := (blk_cell BK209.out 0).trans rfl; have hcz15_1 : w9.cell? ⟨gb209, 1, none⟩ = some (.slice none 0 0) := (blk_cell BK209.out 1).trans rfl; have hfz15_0 := blk_frozen BK209.out 0; have hfz15_1 := blk_frozen BK209.out 1; obtain ⟨Ao16, co16, eo16⟩ := Kd.S_slice HO207.out; subst eo16) | ((with_reducible refine gate_callee (f := 16) rfl ?_); refine goesL_ (some 17) rfl rfl Try.func16 (by kernel_rfl) rfl #[.agg #[.string t204, .slice Ao16 t205.length co16]] rfl ag ?_; (with_reducible refine (precinctref12_Check.calls k t204 _ _ t205 t210 t211 _ ?side1 ?side2 A3.out).mono ?_); (case side1 => refine (Kd.S_reads' (e := 125) (base := w.heap.size) (ok := fun k_ => True) (n := t205.length) (c := co16) ?_).2.2; exact (by (with_reducible repeat (first | apply Kd.S_alloc | apply Kd.S_drewN | apply Kd.S_drew)); exact (Kd.S_mono (Kd.S_mono (Kd.S_far (p := ⟨gb209, 1, none⟩) (Kd.S_far (p := ⟨gb209, 0, none⟩) (Kd.S_far (p := ⟨gb208, 1, none⟩) (Kd.S_far (p := ⟨gb208, 0, none⟩) (Kd.S_types (Kd.S_types HO207.out BK208.out (by decide)) BK209.out (by decide)) (fun _ hk => hk.1.2) (.string t200)) (fun _ hk => hk.1.2) (.slice Ao13 t201.length co13)) (fun _ hk => hk.2) (.string t204)) (fun _ hk => hk.2) (.slice Ao16 t205.length co16)) (fun _ h_ => h_.1)) (fun _ h_ => h_.1)))); (case side2 => exact (Kd.S_reads' HO207.out).2.1); rintro e w17 ⟨rfl, hb⟩; refine ⟨_, rfl, ?_⟩; have n0_ := Aside0.mk (Kd.S_below (by (with_reducible repeat (first | apply Kd.S_alloc | apply Kd.S_drewN | apply Kd.S_drew)); exact (Kd.S_mono (Kd.S_mono (Kd.S_far (p := ⟨gb209, 1, none⟩) (Kd.S_far (p := ⟨gb209, 0, none⟩) (Kd.S_far (p := ⟨gb208, 1, none⟩) (Kd.S_far (p := ⟨gb208, 0, none⟩) (Kd.S_types (Kd.S_types HO203.out BK208.out (by decide)) BK209.out (by decide)) (fun _ hk => hk.1.2) (.string t200)) (fun _ hk => hk.1.2) (.slice Ao13 t201.length co13)) (fun _ hk => hk.2) (.string t204)) (fun _ hk => hk.2) (.slice Ao16 t205.length co16)) (fun _ h_ => h_.1)) (fun _ h_ => h_.1))) hb); have n1_ := Aside0.mk (Kd.S_below (by (with_reducible repeat (first | apply Kd.S_alloc | apply Kd.S_drewN | apply Kd.S_drew)); exact (Kd.S_mono (Kd.S_mono (Kd.S_far (p := ⟨gb209, 1, none⟩) (Kd.S_far (p := ⟨gb209, 0, none⟩) (Kd.S_far (p := ⟨gb208, 1, none⟩) (Kd.S_far (p := ⟨gb208, 0, none⟩) (Kd.S_types (Kd.S_types HO207.out BK208.out (by decide)) BK209.out (by decide)) (fun _ hk => hk.1.2) (.string t200)) (fun _ hk => hk.1.2) (.slice Ao13 t201.length co13)) (fun _ hk => hk.2) (.string t204)) (fun _ hk => hk.2) (.slice Ao16 t205.length co16)) (fun _ h_ => h_.1)) (fun _ h_ => h_.1))) hb); have n2_ := Aside0.mk (blk_below (rb (blk_far (rb (blk_far (rb (blk_far (rb (blk_far (rb BK199.out) NB199_208.out _)) NB199_208.out _)) NB199_209.out _)) NB199_209.out _)) hb); have n3_ := Aside0.mk (blk_below (rb (blk_far (rb (blk_far (rb (blk_put (cs := #[.string t200, .slice none 0 0]) (rb (blk_put (cs := #[.string (⟨#[]⟩ : ByteArray), .slice none 0 0]) (rb BK208.out) 0 _ rfl)) 1 _ rfl)) NB208_209.out _)) NB208_209.out _)) hb); have n4_ := Aside0.mk (blk_below (rb (blk_put (cs := #[.string t204, .slice none 0 0]) (rb (blk_put (cs := #[.string (⟨#[]⟩ : ByteArray), .slice none 0 0]) (rb (blk_far (rb (blk_far (rb BK209.out) NB209_208.out _)) NB209_208.out _)) 0 _ rfl)) 1 _ rfl)) hb); have n5_ := Aside0.mk (below_step bb hb); clear HO203; clear HO207; clear BK199; clear BK208; clear BK209; clear HB; have HO203 := n0_; have HO207 := n1_; have BK199 := n2_; have BK208 := n3_; have BK209 := n4_; have HB := n5_; clear n0_ n1_ n2_ n3_ n4_ n5_; (try clear hb); (try clear hb2); (try clear hk); (try clear hi)))
 (try simp only [Act.put, List.setIfInBounds_toArray, List.set_cons_zero, List.set_cons_succ])
 go_cut [25] (fun v25 wc => ∃ (kq : Nat) (x25_3 : Bool), v25 = .bool x25_3 ∧ Aside0 (precinctlaw12_GraphMasks.j0 kq x25_3 t200 t201 t204 t205 = some r) ∧ Aside0 (kq ≤ k) ∧ Aside0 (Kd.S k48 48 wc w.heap.size (fun _ => True) (.slice Ao13 t201.length co13) t201) ∧ Aside0 (Kd.S k125 125 wc w.heap.size (fun _ => True) (.slice Ao16 t205.length co16) t205) ∧ Aside0 (wc.heap[gb199]? = some (.cells #[.string a0_0, (.slice A0_1 l0_1.length c0_1)] 24 (0, 0))) ∧ Aside0 (wc.heap[gb208]? = some (.cells #[.string t200, (.slice Ao13 t201.length co13)] 27 (0, 0))) ∧ Aside0 (wc.heap[gb209]? = some (.cells #[.string t204, (.slice Ao16 t205.length co16)] 30 (0, 0))) ∧ Aside0 (Below w.heap.size w wc))
 case first =>
  have H := HC4.out
  clear HC4
  replace H := Option.bind_eq_some_iff.mp H
  obtain ⟨t212, A180, H⟩ := H
  replace H : (if t212 = true then (precinctlaw12_GraphMasks.j0 k (t211 != 0) t200 t201 t204 t205) else (precinctlaw12_GraphMasks.j0 k true t200 t201 t204 t205)) = some r := H
  have A18 := Aside0.mk A180
  clear A180
  by_cases c19 : t212 = true
  ·subst c19
   have H1 : (precinctlaw12_GraphMasks.j0 k (t211 != 0) t200 t201 t204 t205) = some r := by rw [if_pos rfl] at H; exact H
   clear H
   have H := H1
   clear H1
   have H' := Aside0.mk H
   clear H
   go_wp2_with (first | ((with_reducible refine gate_callee (f := 17) rfl ?_); refine goesL_ (some 20) rfl rfl Try.func17 (by kernel_rfl) rfl #[] rfl ag ?_; (with_reducible refine (precinctlaw12_wakes.calls  true _ A18.out).mono ?_); rintro e w20 ⟨rfl, hb⟩; refine ⟨_, rfl, ?_⟩; have n0_ := Aside0.mk (Kd.S_below (by (with_reducible repeat (first | apply Kd.S_alloc | apply Kd.S_drewN | apply Kd.S_drew)); exact HO203.out) hb); have n1_ := Aside0.mk (Kd.S_below (by (with_reducible repeat (first | apply Kd.S_alloc | apply Kd.S_drewN | apply Kd.S_drew)); exact HO207.out) hb); have n2_ := Aside0.mk (blk_below (rb BK199.out) hb); have n3_ := Aside0.mk (blk_below (rb BK208.out) hb); have n4_ := Aside0.mk (blk_below (rb BK209.out) hb); have n5_ := Aside0.mk (below_step bb hb); clear HO203; clear HO207; clear BK199; clear BK208; clear BK209; clear HB; have HO203 := n0_; have HO207 := n1_; have BK199 := n2_; have BK208 := n3_; have BK209 := n4_; have HB := n5_; clear n0_ n1_ n2_ n3_ n4_ n5_; (try clear hb); (try clear hb2); (try clear hk); (try clear hi)))
   go_meet
   case rel => exact ⟨_, ((t211 != 0)), (by first | rfl | (simp; done) | (simp [*]; done)), H', ⟨by first | omega | exact Nat.le_refl _⟩, ⟨by (with_reducible repeat (first | apply Kd.S_alloc | apply Kd.S_drewN | apply Kd.S_drew)); exact HO203.out⟩, ⟨by (with_reducible repeat (first | apply Kd.S_alloc | apply Kd.S_drewN | apply Kd.S_drew)); exact HO207.out⟩, ⟨by (with_reducible repeat (first | refine blk_drewN ?_ _ | refine blk_drew ?_ | refine blk_alloc ?_ _)); exact BK199.out⟩, ⟨by (with_reducible repeat (first | refine blk_drewN ?_ _ | refine blk_drew ?_ | refine blk_alloc ?_ _)); exact BK208.out⟩, ⟨by (with_reducible repeat (first | refine blk_drewN ?_ _ | refine blk_drew ?_ | refine blk_alloc ?_ _)); exact BK209.out⟩, ⟨bb⟩⟩
  ·replace c19 := Bool.eq_false_iff.mpr c19
   subst c19
   have H1 : (precinctlaw12_GraphMasks.j0 k true t200 t201 t204 t205) = some r := by rw [if_neg (show ¬ (false = true) by decide)] at H; exact H
   clear H
   have H := H1
   clear H1
   have H' := Aside0.mk H
   clear H
   go_wp2_with (first | ((with_reducible refine gate_callee (f := 17) rfl ?_); refine goesL_ (some 20) rfl rfl Try.func17 (by kernel_rfl) rfl #[] rfl ag ?_; (with_reducible refine (precinctlaw12_wakes.calls  false _ A18.out).mono ?_); rintro e w21 ⟨rfl, hb⟩; refine ⟨_, rfl, ?_⟩; have n0_ := Aside0.mk (Kd.S_below (by (with_reducible repeat (first | apply Kd.S_alloc | apply Kd.S_drewN | apply Kd.S_drew)); exact HO203.out) hb); have n1_ := Aside0.mk (Kd.S_below (by (with_reducible repeat (first | apply Kd.S_alloc | apply Kd.S_drewN | apply Kd.S_drew)); exact HO207.out) hb); have n2_ := Aside0.mk (blk_below (rb BK199.out) hb); have n3_ := Aside0.mk (blk_below (rb BK208.out) hb); have n4_ := Aside0.mk (blk_below (rb BK209.out) hb); have n5_ := Aside0.mk (below_step bb hb); clear HO203; clear HO207; clear BK199; clear BK208; clear BK209; clear HB; have HO203 := n0_; have HO207 := n1_; have BK199 := n2_; have BK208 := n3_; have BK209 := n4_; have HB := n5_; clear n0_ n1_ n2_ n3_ n4_ n5_; (try clear hb); (try clear hb2); (try clear hk); (try clear hi)))
   go_meet
   case rel => exact ⟨_, (true), (by first | rfl | (simp; done) | (simp [*]; done)), H', ⟨by first | omega | exact Nat.le_refl _⟩, ⟨by (with_reducible repeat (first | apply Kd.S_alloc | apply Kd.S_drewN | apply Kd.S_drew)); exact HO203.out⟩, ⟨by (with_reducible repeat (first | apply Kd.S_alloc | apply Kd.S_drewN | apply Kd.S_drew)); exact HO207.out⟩, ⟨by (with_reducible repeat (first | refine blk_drewN ?_ _ | refine blk_drew ?_ | refine blk_alloc ?_ _)); exact BK199.out⟩, ⟨by (with_reducible repeat (first | refine blk_drewN ?_ _ | refine blk_drew ?_ | refine blk_alloc ?_ _)); exact BK208.out⟩, ⟨by (with_reducible repeat (first | refine blk_drewN ?_ _ | refine blk_drew ?_ | refine blk_alloc ?_ _)); exact BK209.out⟩, ⟨bb⟩⟩
 case rest =>
  clear HC4
  try clear c1
  try clear p2
  try clear c4
  try clear c10
  try clear c11
  try clear c14
  try clear c16
  try clear c17
  try clear c19
  try clear hcz12_0
  try clear hcz12_1
  try clear hcz15_0
  try clear hcz15_1
  try clear hcz6_0
  try clear hcz6_1
  try clear hfz12_0
  try clear hfz12_1
  try clear hfz15_0
  try clear hfz15_1
  try clear hfz6_0
  try clear hfz6_1
  obtain ⟨kq, x25_3, rfl, HA, HJ3, HO_209001, HO_210001, BK199, BK208, BK209, HB⟩ := hcut
  cases kq with
  | zero => exact absurd HA.out (by simp [precinctlaw12_GraphMasks.j0])
  | succ kj3 =>
   have H := HA.out
   clear HA
   simp only [precinctlaw12_GraphMasks.j0] at H
   by_cases c22 : x25_3 = true
   ·subst c22
    have H1 : ((precinctlaw12_wakes.f).bind fun t213 => (some t213)) = some r := by rw [if_pos rfl] at H; exact H
    clear H
    have H := H1
    clear H1
    replace H := Option.bind_eq_some_iff.mp H
    obtain ⟨t213, A230, H⟩ := H
    replace H : (some t213) = some r := H
    have A23 := Aside0.mk A230
    clear A230
    obtain rfl := Option.some.inj H
    go_wp2_with (first | ((with_reducible refine gate_callee (f := 17) rfl ?_); refine goesL_ (some 26) rfl rfl Try.func17 (by kernel_rfl) rfl #[] rfl ag ?_; (with_reducible refine (precinctlaw12_wakes.calls  t213 _ A23.out).mono ?_); rintro e w24 ⟨rfl, hb⟩; refine ⟨_, rfl, ?_⟩; have n0_ := Aside0.mk (Kd.S_below (by (with_reducible repeat (first | apply Kd.S_alloc | apply Kd.S_drewN | apply Kd.S_drew)); exact HO_209001.out) hb); have n1_ := Aside0.mk (Kd.S_below (by (with_reducible repeat (first | apply Kd.S_alloc | apply Kd.S_drewN | apply Kd.S_drew)); exact HO_210001.out) hb); have n2_ := Aside0.mk (blk_below (rb BK199.out) hb); have n3_ := Aside0.mk (blk_below (rb BK208.out) hb); have n4_ := Aside0.mk (blk_below (rb BK209.out) hb); have n5_ := Aside0.mk (below_step bb hb); clear HO_209001; clear HO_210001; clear BK199; clear BK208; clear BK209; clear HB; have HO_209001 := n0_; have HO_210001 := n1_; have BK199 := n2_; have BK208 := n3_; have BK209 := n4_; have HB := n5_; clear n0_ n1_ n2_ n3_ n4_ n5_; (try clear hb); (try clear hb2); (try clear hk); (try clear hi)))
    go_ret
    exact ⟨by first | rfl | (simp [errW_none, errW_some] <;> rfl) | (simp [*, errW_none, errW_some] <;> rfl), bb⟩
   ·replace c22 := Bool.eq_false_iff.mpr c22
    subst c22
    have H1 : ((graph_Masks.f kj3 t200 t201).bind fun t214 => ((precinctref12_Masks.f kj3 t204 t205).bind fun t217 => (if (t214.length : Int) = (t217.length : Int) then (precinctlaw12_GraphMasks.l0 kj3 t214 t217 (t214.length : Int) 0) else (some false)))) = some r := by rw [if_neg (show ¬ (false = true) by decide)] at H; exact H
    clear H
    have H := H1
    clear H1
    replace H := Option.bind_eq_some_iff.mp H
    obtain ⟨t214, A250, H⟩ := H
    replace H : ((precinctref12_Masks.f kj3 t204 t205).bind fun t217 => (if (t214.length : Int) = (t217.length : Int) then (precinctlaw12_GraphMasks.l0 kj3 t214 t217 (t214.length : Int) 0) else (some false))) = some r := H
    have A25 := Aside0.mk A250
    clear A250
    replace H := Option.bind_eq_some_iff.mp H
    obtain ⟨t217, A260, H⟩ := H
    replace H : (if (t214.length : Int) = (t217.length : Int) then (precinctlaw12_GraphMasks.l0 kj3 t214 t217 (t214.length : Int) 0) else (some false)) = some r := H
    have A26 := Aside0.mk A260
    clear A260
    by_cases c27 : (t214.length : Int) = (t217.length : Int)
    ·rw [if_pos c27] at H
     have c27b0 : ((t214.length : Int) == (t217.length : Int)) = true := beq_iff_eq.mpr c27
     have c27b1 : ((t214.length : Int) != (t217.length : Int)) = false := bne_eq_false_iff_eq.mpr c27
     have c27b2 : (t214.length == t217.length) = true := by first | simpa using c27 | (simp at c27 ⊢; omega)
     clear c27
     have H' := Aside0.mk H
     clear H
     try go_wp2
     have n0_ := Aside0.mk (Kd.S_drew HO_209001.out)
     have n1_ := Aside0.mk (Kd.S_drew HO_210001.out)
     have n2_ := Aside0.mk (blk_drew BK199.out)
     have n3_ := Aside0.mk (blk_drew BK208.out)
     have n4_ := Aside0.mk (blk_drew BK209.out)
     have n5_ := Aside0.mk (below_drew1 HB.out)
     clear HO_209001
     clear HO_210001
     clear BK199
     clear BK208
     clear BK209
     clear HB
     have HO_209001 := n0_
     have HO_210001 := n1_
     have BK199 := n2_
     have BK208 := n3_
     have BK209 := n4_
     have HB := n5_
     clear n0_ n1_ n2_ n3_ n4_ n5_
     refine start_ (n := 6) (S := fun w' => w'.cell? ⟨gb208, 0, none⟩ = some (.string t200) ∧ w'.cell? ⟨gb208, 1, none⟩ = some (.slice Ao13 t201.length co13) ∧ w'.cell? ⟨gb209, 0, none⟩ = some (.string t204) ∧ w'.cell? ⟨gb209, 1, none⟩ = some (.slice Ao16 t205.length co16)) (ds := []) #[false, false, false, false, false, false] (by kernel_rfl) rfl rfl ⟨(blk_cell BK208.out 0).trans rfl, (blk_cell BK208.out 1).trans rfl, (blk_cell BK209.out 0).trans rfl, (blk_cell BK209.out 1).trans rfl⟩ (fun hHeld => ?_)
     generalize wc.drew = w28 at HO_209001 HO_210001 BK199 BK208 BK209 HB hHeld ⊢
     refine take_ (i := 0) (N := some 27) (v := ?_) (a' := ?_) #[true, false, false, false, false, false] rfl rfl (by kernel_rfl) (fun _ _ _ h => h) (Or.inl ⟨by rfl, ?_⟩) hHeld ?_ ?_
     rotate_left
     ·rintro w' ⟨s0, s1, s2, s3⟩
      go_simp
      with_reducible rfl
     rotate_left
     ·simp only [Act.put, List.setIfInBounds_toArray, List.set_cons_zero, List.set_cons_succ, i64_w, i32_w]
      rfl
     refine take_ (i := 2) (N := some 29) (v := ?_) (a' := ?_) #[true, false, true, false, false, false] rfl rfl (by kernel_rfl) (fun _ _ _ h => h) (Or.inl ⟨by rfl, ?_⟩) hHeld ?_ ?_
     rotate_left
     ·rintro w' ⟨s0, s1, s2, s3⟩
      go_simp
      with_reducible rfl
     rotate_left
     ·simp only [Act.put, List.setIfInBounds_toArray, List.set_cons_zero, List.set_cons_succ, i64_w, i32_w]
      rfl
     refine one_ (i := 1) (N := some 28) #[true, true, true, false, false, false] rfl rfl (by kernel_rfl) (by decide) (fun K hK => ?_)
     refine goes_ Try.func18 (by kernel_rfl) rfl #[.agg #[.string t200, .slice Ao13 t201.length co13]] (by rfl) rfl rfl ag ?_
     with_reducible refine (graph_Masks.calls kj3 t200 _ _ t201 t214 _ ?side1 ?side2 A25.out).mono ?_
     (case side1 => repeat (first | exact (Kd.S_reads' HO_209001.out).2.2 | (with_reducible refine Kd.C_alloc ?_ _) | (with_reducible refine Kd.C_drewN ?_ _) | (with_reducible refine Kd.C_drew ?_)))
     (case side2 => exact (Kd.S_reads' HO_209001.out).2.1)
     rintro e w29 ⟨v215, rfl, ho0, hb⟩
     refine ⟨_, rfl, ?_⟩
     have n0_ := Aside0.mk (Kd.S_below (by (with_reducible repeat (first | apply Kd.S_alloc | apply Kd.S_drewN | apply Kd.S_drew)); exact HO_209001.out) hb)
     have n1_ := Aside0.mk (Kd.S_below (by (with_reducible repeat (first | apply Kd.S_alloc | apply Kd.S_drewN | apply Kd.S_drew)); exact HO_210001.out) hb)
     have n2_ := Aside0.mk (Kd.R_lower ho0 (below_size bb))
     have n3_ := Aside0.mk (blk_below (rb BK199.out) hb)
     have n4_ := Aside0.mk (blk_below (rb BK208.out) hb)
     have n5_ := Aside0.mk (blk_below (rb BK209.out) hb)
     have n6_ := Aside0.mk (below_step bb hb)
     clear HO_209001
     clear HO_210001
     clear BK199
     clear BK208
     clear BK209
     clear HB
     have HO_209001 := n0_
     have HO_210001 := n1_
     have HO216 := n2_
     have BK199 := n3_
     have BK208 := n4_
     have BK209 := n5_
     have HB := n6_
     clear n0_ n1_ n2_ n3_ n4_ n5_ n6_
     (try clear hb)
     (try clear hb2)
     (try clear hk)
     (try clear hi)
     (try clear ho0)
     refine hK.out _ _ ⟨(blk_cell BK208.out 0).trans rfl, (blk_cell BK208.out 1).trans rfl, (blk_cell BK209.out 0).trans rfl, (blk_cell BK209.out 1).trans rfl⟩ (fun hHeld => ?_)
     clear hK K
     refine norm_ (a' := ?_) ?_ ?_
     rotate_left
     ·show Act.put _ (some 28) _ = _
      simp only [Act.put, List.setIfInBounds_toArray, List.set_cons_zero, List.set_cons_succ, i64_w, i32_w]
      rfl
     refine one_ (i := 3) (N := some 30) #[true, true, true, true, false, false] rfl rfl (by kernel_rfl) (by decide) (fun K hK => ?_)
     refine goes_ Try.func19 (by kernel_rfl) rfl #[.agg #[.string t204, .slice Ao16 t205.length co16]] (by rfl) rfl rfl ag ?_
     with_reducible refine (precinctref12_Masks.calls kj3 t204 _ _ t205 t217 _ ?side1 ?side2 A26.out).mono ?_
     (case side1 => repeat (first | exact (Kd.S_reads' HO_210001.out).2.2 | (with_reducible refine Kd.C_alloc ?_ _) | (with_reducible refine Kd.C_drewN ?_ _) | (with_reducible refine Kd.C_drew ?_)))
     (case side2 => exact (Kd.S_reads' HO_210001.out).2.1)
     rintro e w30 ⟨v218, rfl, ho0, hb⟩
     refine ⟨_, rfl, ?_⟩
     have n0_ := Aside0.mk (Kd.S_below (by (with_reducible repeat (first | apply Kd.S_alloc | apply Kd.S_drewN | apply Kd.S_drew)); exact HO_209001.out) hb)
     have n1_ := Aside0.mk (Kd.S_below (by (with_reducible repeat (first | apply Kd.S_alloc | apply Kd.S_drewN | apply Kd.S_drew)); exact HO_210001.out) hb)
     have n2_ := Aside0.mk (Kd.R_elder' (kR HO216.out) (Kd.R_base ho0) hb)
     have n3_ := Aside0.mk (Kd.R_lower (Kd.R_new' ho0 (Kd.R_lt (kR HO216.out))) (below_size bb))
     have n4_ := Aside0.mk (blk_below (rb BK199.out) hb)
     have n5_ := Aside0.mk (blk_below (rb BK208.out) hb)
     have n6_ := Aside0.mk (blk_below (rb BK209.out) hb)
     have n7_ := Aside0.mk (below_step bb hb)
     clear HO_209001
     clear HO_210001
     clear HO216
     clear BK199
     clear BK208
     clear BK209
     clear HB
     have HO_209001 := n0_
     have HO_210001 := n1_
     have HO216 := n2_
     have HO219 := n3_
     have BK199 := n4_
     have BK208 := n5_
     have BK209 := n6_
     have HB := n7_
     clear n0_ n1_ n2_ n3_ n4_ n5_ n6_ n7_
     (try clear hb)
     (try clear hb2)
     (try clear hk)
     (try clear hi)
     (try clear ho0)
     refine hK.out _ _ ⟨(blk_cell BK208.out 0).trans rfl, (blk_cell BK208.out 1).trans rfl, (blk_cell BK209.out 0).trans rfl, (blk_cell BK209.out 1).trans rfl⟩ (fun hHeld => ?_)
     clear hK K
     refine norm_ (a' := ?_) ?_ ?_
     rotate_left
     ·show Act.put _ (some 30) _ = _
      simp only [Act.put, List.setIfInBounds_toArray, List.set_cons_zero, List.set_cons_succ, i64_w, i32_w]
      rfl
     refine pure_ (i := 4) (N := some 7) (v := ?_) (a' := ?_) #[true, true, true, true, true, false] rfl rfl (by kernel_rfl) (fun _ _ _ h => h) (Or.inl ⟨by rfl, ?_⟩) ?_ ?_
     rotate_left
     ·intro w'
      go_simp
      with_reducible rfl
     rotate_left
     ·simp only [Act.put, List.setIfInBounds_toArray, List.set_cons_zero, List.set_cons_succ, i64_w, i32_w]
      rfl
     refine pure_ (i := 5) (N := some 8) (v := ?_) (a' := ?_) #[true, true, true, true, true, true] rfl rfl (by kernel_rfl) (fun _ _ _ h => h) (Or.inl ⟨by rfl, ?_⟩) ?_ ?_
     rotate_left
     ·intro w'
      go_simp
      with_reducible rfl
     rotate_left
     ·simp only [Act.put, List.setIfInBounds_toArray, List.set_cons_zero, List.set_cons_succ, i64_w, i32_w]
      rfl
     refine done_ (by kernel_rfl) ?_
     obtain ⟨Ao31, co31, eo31⟩ := Kd.R_slice HO216.out
     subst eo31
     obtain ⟨Ao32, co32, eo32⟩ := Kd.R_slice HO219.out
     subst eo32
     try go_wp2
     go_loopg [38] kj3 (fun kq v38 w' => ∃ (x38_2 : Int), v38 = .int .i64 x38_2 ∧ Aside0 (precinctlaw12_GraphMasks.l0 kq t214 t217 (t214.length : Int) x38_2 = some r) ∧ Aside0 (kq ≤ kj3) ∧ Aside0 (Kd.R (Kd.int .u32) 43 w' w.heap.size (fun k_ => some k_ ≠ ((.slice Ao32 t217.length co32) : Value).ownBlock) (.slice Ao31 t214.length co31) t214) ∧ Aside0 (Kd.R (Kd.int .u32) 43 w' w.heap.size (fun k_ => some k_ ≠ ((.slice Ao31 t214.length co31) : Value).ownBlock) (.slice Ao32 t217.length co32) t217) ∧ Aside0 (Kd.S k48 48 w' w.heap.size (fun _ => True) (.slice Ao13 t201.length co13) t201) ∧ Aside0 (Kd.S k125 125 w' w.heap.size (fun _ => True) (.slice Ao16 t205.length co16) t205) ∧ Aside0 (w'.heap[gb199]? = some (.cells #[.string a0_0, (.slice A0_1 l0_1.length c0_1)] 24 (0, 0))) ∧ Aside0 (w'.heap[gb208]? = some (.cells #[.string t200, (.slice Ao13 t201.length co13)] 27 (0, 0))) ∧ Aside0 (w'.heap[gb209]? = some (.cells #[.string t204, (.slice Ao16 t205.length co16)] 30 (0, 0))) ∧ Aside0 (Below w.heap.size w w'))
     case atStart => exact ⟨(0), (by first | rfl | (simp; done) | (simp [*]; done)), H', ⟨Nat.le_refl _⟩, ⟨kR (Kd.R_mono HO216.out (fun _ hk => hk.2))⟩, ⟨kR (Kd.R_mono HO219.out (fun _ hk => hk.2))⟩, ⟨by (with_reducible repeat (first | apply Kd.S_alloc | apply Kd.S_drewN | apply Kd.S_drew)); exact HO_209001.out⟩, ⟨by (with_reducible repeat (first | apply Kd.S_alloc | apply Kd.S_drewN | apply Kd.S_drew)); exact HO_210001.out⟩, ⟨by (with_reducible repeat (first | refine blk_drewN ?_ _ | refine blk_drew ?_ | refine blk_alloc ?_ _)); exact BK199.out⟩, ⟨by (with_reducible repeat (first | refine blk_drewN ?_ _ | refine blk_drew ?_ | refine blk_alloc ?_ _)); exact BK208.out⟩, ⟨by (with_reducible repeat (first | refine blk_drewN ?_ _ | refine blk_drew ?_ | refine blk_alloc ?_ _)); exact BK209.out⟩, ⟨bb⟩⟩
     case round =>
      clear H'
      try clear c1
      try clear c2
      try clear p2
      try clear c4
      try clear c10
      try clear c11
      try clear c14
      try clear c16
      try clear c17
      try clear c18
      try clear c19
      try clear c22
      try clear c27
      try clear c27b0
      try clear c27b1
      try clear c27b2
      try clear hcz12_0
      try clear hcz12_1
      try clear hcz15_0
      try clear hcz15_1
      try clear hcz6_0
      try clear hcz6_1
      try clear hfz12_0
      try clear hfz12_1
      try clear hfz15_0
      try clear hfz15_1
      try clear hfz6_0
      try clear hfz6_1
      try clear p2
      obtain ⟨x38_2, rfl, HA, HK2, HO_7, HO_8, HO_209001, HO_210001, BK199, BK208, BK209, HB⟩ := hrel
      cases gk with
      | zero => exact absurd HA.out (by simp [precinctlaw12_GraphMasks.l0])
      | succ k2 =>
       have H := HA.out
       clear HA
       simp only [precinctlaw12_GraphMasks.l0] at H
       by_cases c33 : x38_2 < (t214.length : Int)
       ·rw [if_pos c33] at H
        have c33b0 : decide (x38_2 < (t214.length : Int)) = true := decide_eq_true c33
        clear c33
        by_cases c34 : 0 ≤ x38_2
        ·rw [if_pos c34] at H
         have c34b0 : decide (0 ≤ x38_2) = true := decide_eq_true c34
         clear c34
         by_cases c35 : x38_2 < (t214.length : Int)
         ·rw [if_pos c35] at H
          have c35b0 : decide (x38_2 < (t214.length : Int)) = true := decide_eq_true c35
          clear c35
          by_cases c36 : x38_2 < (t217.length : Int)
          ·rw [if_pos c36] at H
           have c36b0 : decide (x38_2 < (t217.length : Int)) = true := decide_eq_true c36
           clear c36
           by_cases c37 : (rd t214 x38_2) = (rd t217 x38_2)
           ·rw [if_pos c37] at H
            have c37b0 : ((rd t214 x38_2) == (rd t217 x38_2)) = true := beq_iff_eq.mpr c37
            have c37b1 : ((rd t214 x38_2) != (rd t217 x38_2)) = false := bne_eq_false_iff_eq.mpr c37
            clear c37
            have H' := Aside0.mk H
            clear H
            try go_wp2
            have n0_ := Aside0.mk (Kd.R_drew HO_7.out)
            have n1_ := Aside0.mk (Kd.R_drew HO_8.out)
            have n2_ := Aside0.mk (Kd.S_drew HO_209001.out)
            have n3_ := Aside0.mk (Kd.S_drew HO_210001.out)
            have n4_ := Aside0.mk (blk_drew BK199.out)
            have n5_ := Aside0.mk (blk_drew BK208.out)
            have n6_ := Aside0.mk (blk_drew BK209.out)
            have n7_ := Aside0.mk (below_drew1 HB.out)
            clear HO_7
            clear HO_8
            clear HO_209001
            clear HO_210001
            clear BK199
            clear BK208
            clear BK209
            clear HB
            have HO_7 := n0_
            have HO_8 := n1_
            have HO_209001 := n2_
            have HO_210001 := n3_
            have BK199 := n4_
            have BK208 := n5_
            have BK209 := n6_
            have HB := n7_
            clear n0_ n1_ n2_ n3_ n4_ n5_ n6_ n7_
            have p220 : 0 ≤ (x38_2 : Int) := of_decide_eq_true (by first | (with_reducible assumption) | assumption)
            have q220 : x38_2 < (t214.length : Int) := of_decide_eq_true (by first | (with_reducible assumption) | assumption)
            obtain ⟨ad220, e220, hx220_0⟩ := Kd.at_int (Kd.R_reads' HO_7.out).2.2 x38_2 p220 q220
            cases e220
            replace p220 := eq_true p220
            replace q220 := eq_true q220
            have p221 : 0 ≤ (x38_2 : Int) := of_decide_eq_true (by first | (with_reducible assumption) | assumption)
            have q221 : x38_2 < (t217.length : Int) := of_decide_eq_true (by first | (with_reducible assumption) | assumption)
            obtain ⟨ad221, e221, hx221_0⟩ := Kd.at_int (Kd.R_reads' HO_8.out).2.2 x38_2 p221 q221
            cases e221
            replace p221 := eq_true p221
            replace q221 := eq_true q221
            refine start_ (n := 9) (S := fun w' => w'.cell? (ad220.add (x38_2).toNat) = some (.int .u32 (rd t214 x38_2)) ∧ w'.cell? (ad221.add (x38_2).toNat) = some (.int .u32 (rd t217 x38_2))) (ds := []) #[false, false, false, false, false, false, false, false, false] (by kernel_rfl) rfl rfl ⟨hx220_0, hx221_0⟩ (fun hHeld => ?_); refine with_tabW precinctlaw12_GraphMasks.tab11 precinctlaw12_GraphMasks.bits11 (fun HT_ HW_ => ?_)
            generalize wr.drew = w38 at HO_7 HO_8 HO_209001 HO_210001 BK199 BK208 BK209 HB hx220_0 hx221_0 hHeld ⊢
            refine pure_ (i := 0) (N := some 41) (v := ?_) (a' := ?_) #[true, false, false, false, false, false, false, false, false] rfl rfl (any_of HT_.out (by kernel_rfl)) (fun _ _ _ h => h) (Or.inl ⟨by rfl, ?_⟩) ?_ ?_
            rotate_left
            ·intro w'
             go_simp
             with_reducible rfl
            rotate_left
            ·simp only [Act.put, List.setIfInBounds_toArray, List.set_cons_zero, List.set_cons_succ, i64_w, i32_w]
             rfl
            refine pure_ (i := 1) (N := some 42) (v := ?_) (a' := ?_) #[true, true, false, false, false, false, false, false, false] rfl rfl (any_of HT_.out (by kernel_rfl)) (fun _ _ _ h => h) (Or.inl ⟨by rfl, ?_⟩) ?_ ?_
            rotate_left
            ·intro w'
             go_simp
             with_reducible rfl
            rotate_left
            ·simp only [Act.put, List.setIfInBounds_toArray, List.set_cons_zero, List.set_cons_succ, i64_w, i32_w]
             rfl
            refine pure_ (i := 2) (N := some 43) (v := ?_) (a' := ?_) #[true, true, true, false, false, false, false, false, false] rfl rfl (any_of HT_.out (by kernel_rfl)) (fun _ _ _ h => h) (Or.inl ⟨by rfl, ?_⟩) ?_ ?_
            rotate_left
            ·intro w'
             go_simp
             with_reducible rfl
            rotate_left
            ·simp only [Act.put, List.setIfInBounds_toArray, List.set_cons_zero, List.set_cons_succ, i64_w, i32_w]
             rfl
            refine pure_ (i := 4) (N := some 45) (v := ?_) (a' := ?_) #[true, true, true, false, true, false, false, false, false] rfl rfl (any_of HT_.out (by kernel_rfl)) (fun _ _ _ h => h) (Or.inl ⟨by rfl, ?_⟩) ?_ ?_
            rotate_left
            ·intro w'
             go_simp
             with_reducible rfl
            rotate_left
            ·simp only [Act.put, List.setIfInBounds_toArray, List.set_cons_zero, List.set_cons_succ, i64_w, i32_w]
             rfl
            refine pure_ (i := 5) (N := some 46) (v := ?_) (a' := ?_) #[true, true, true, false, true, true, false, false, false] rfl rfl (any_of HT_.out (by kernel_rfl)) (fun _ _ _ h => h) (Or.inl ⟨by rfl, ?_⟩) ?_ ?_
            rotate_left
            ·intro w'
             go_simp
             with_reducible rfl
            rotate_left
            ·simp only [Act.put, List.setIfInBounds_toArray, List.set_cons_zero, List.set_cons_succ, i64_w, i32_w]
             rfl
            refine pure_ (i := 6) (N := some 47) (v := ?_) (a' := ?_) #[true, true, true, false, true, true, true, false, false] rfl rfl (any_of HT_.out (by kernel_rfl)) (fun _ _ _ h => h) (Or.inl ⟨by rfl, ?_⟩) ?_ ?_
            rotate_left
            ·intro w'
             go_simp
             with_reducible rfl
            rotate_left
            ·simp only [Act.put, List.setIfInBounds_toArray, List.set_cons_zero, List.set_cons_succ, i64_w, i32_w]
             rfl
            refine take_ (i := 3) (N := some 44) (v := ?_) (a' := ?_) #[true, true, true, true, true, true, true, false, false] rfl rfl (take_ofW HT_.out HW_.out (by kernel_rfl)) (fun _ _ _ h => h) (Or.inl ⟨by rfl, ?_⟩) hHeld ?_ ?_
            rotate_left
            ·rintro w' ⟨s0, s1⟩
             go_simp
             with_reducible rfl
            rotate_left
            ·simp only [Act.put, List.setIfInBounds_toArray, List.set_cons_zero, List.set_cons_succ, i64_w, i32_w]
             rfl
            refine take_ (i := 7) (N := some 48) (v := ?_) (a' := ?_) #[true, true, true, true, true, true, true, true, false] rfl rfl (take_ofW HT_.out HW_.out (by kernel_rfl)) (fun _ _ _ h => h) (Or.inl ⟨by rfl, ?_⟩) hHeld ?_ ?_
            rotate_left
            ·rintro w' ⟨s0, s1⟩
             go_simp
             with_reducible rfl
            rotate_left
            ·simp only [Act.put, List.setIfInBounds_toArray, List.set_cons_zero, List.set_cons_succ, i64_w, i32_w]
             rfl
            refine pure_ (i := 8) (N := some 49) (v := ?_) (a' := ?_) #[true, true, true, true, true, true, true, true, true] rfl rfl (any_of HT_.out (by kernel_rfl)) (fun _ _ _ h => h) (Or.inl ⟨by rfl, ?_⟩) ?_ ?_
            rotate_left
            ·intro w'
             go_simp
             with_reducible rfl
            rotate_left
            ·simp only [Act.put, List.setIfInBounds_toArray, List.set_cons_zero, List.set_cons_succ, i64_w, i32_w]
             rfl
            refine done_ (done_of HT_.out (by kernel_rfl)) ?_
            try go_wp2
            go_roundg k2
            case measure => have := HJ3.out; have := HK2.out; omega
            case rel => exact ⟨(wrap64 (x38_2 + 1)), (by first | rfl | (simp; done) | (simp [*]; done)), H', ⟨by have := HJ3.out; have := HK2.out; omega⟩, ⟨kR HO_7.out⟩, ⟨kR HO_8.out⟩, ⟨by (with_reducible repeat (first | apply Kd.S_alloc | apply Kd.S_drewN | apply Kd.S_drew)); exact HO_209001.out⟩, ⟨by (with_reducible repeat (first | apply Kd.S_alloc | apply Kd.S_drewN | apply Kd.S_drew)); exact HO_210001.out⟩, ⟨by (with_reducible repeat (first | refine blk_drewN ?_ _ | refine blk_drew ?_ | refine blk_alloc ?_ _)); exact BK199.out⟩, ⟨by (with_reducible repeat (first | refine blk_drewN ?_ _ | refine blk_drew ?_ | refine blk_alloc ?_ _)); exact BK208.out⟩, ⟨by (with_reducible repeat (first | refine blk_drewN ?_ _ | refine blk_drew ?_ | refine blk_alloc ?_ _)); exact BK209.out⟩, ⟨bb⟩⟩
           ·rw [if_neg c37] at H
            have c37b0 : ((rd t214 x38_2) == (rd t217 x38_2)) = false := beq_eq_false_iff_ne.mpr c37
            have c37b1 : ((rd t214 x38_2) != (rd t217 x38_2)) = true := bne_iff_ne.mpr c37
            exact absurd ((Option.some.inj H).trans hT_.out) (by decide)
          ·rw [if_neg c36] at H
           exact absurd H (by simp)
         ·rw [if_neg c35] at H
          exact absurd H (by simp)
        ·rw [if_neg c34] at H
         exact absurd H (by simp)
       ·rw [if_neg c33] at H
        have c33b0 : decide (x38_2 < (t214.length : Int)) = false := decide_eq_false c33
        clear c33
        obtain rfl := Option.some.inj H
        go_wp2
        go_ret
        exact ⟨by first | rfl | (simp [errW_none, errW_some] <;> rfl) | (simp [*, errW_none, errW_some] <;> rfl), bb⟩
    ·rw [if_neg c27] at H
     have c27b0 : ((t214.length : Int) == (t217.length : Int)) = false := beq_eq_false_iff_ne.mpr c27
     have c27b1 : ((t214.length : Int) != (t217.length : Int)) = true := bne_iff_ne.mpr c27
     have c27b2 : (t214.length == t217.length) = false := by first | simpa using c27 | (simp at c27 ⊢; omega)
     exact absurd ((Option.some.inj H).trans hT_.out) (by decide)

end Go.Proofs.Ytjicfkmpgogppaa.PG
