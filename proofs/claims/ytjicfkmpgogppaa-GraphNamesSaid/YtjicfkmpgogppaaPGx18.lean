-- printed by a program of this session out of the translation; see NOTES.md
import Derived.Test.YtjicfkmpgogppaaPGx0
import Derived.Test.YtjicfkmpgogppaaPGx1
import Derived.Test.YtjicfkmpgogppaaPGx9
import Derived.Test.YtjicfkmpgogppaaPGx16
import Derived.Test.YtjicfkmpgogppaaPGx17
import Derived.Test.YtjicfkmpgogppaaRb
namespace Go.Proofs.Ytjicfkmpgogppaa.PG
open Go.RowKit Go.Proofs.YtjicfkmpgogppaaW.PrintWords Go.Proofs.YtjicfkmpgogppaaW.PrintLast Go.Proofs.YtjicfkmpgogppaaW.PrintMore Go.Proofs.YtjicfkmpgogppaaRb
attribute [local go_sem] max2_int min2_int max_two min_two max_three min_three max_four min_four   -- for this text's walks alone
set_option linter.unusedVariables false
set_option linter.unusedSimpArgs false

/-! ### precinctlaw12_GraphChecks: function 3 -/
def precinctlaw12_GraphChecks.f (k : Nat) (a0_0 : ByteArray) (l0_1 : List (S124)) : Option (Bool) := (precinctlaw12_flows.f a0_0 l0_1).bind fun bt179 => ((graph_Check.f k bt179.1 bt179.2.1).bind fun bt189 => ((precinctref12_Check.f k bt179.2.2.1 bt179.2.2.2).bind fun bt191 => ((precinctlaw12_wakes.f).bind fun t193 => (if t193 = true then (if bt189.1 = bt191.1 then (some (bt189.2 == bt191.2)) else (some false)) else (some false)))))
theorem precinctlaw12_GraphChecks.mono : ∀ a0 a1 k, LeO (precinctlaw12_GraphChecks.f k a0 a1) (precinctlaw12_GraphChecks.f (k + 1) a0 a1) := by
 intro a0 a1 k
 unfold precinctlaw12_GraphChecks.f
 repeat' first
   | (with_reducible exact graph_Check.mono _ _ _)
   | (with_reducible exact precinctref12_Check.mono _ _ _)
   | (with_reducible exact LeO.refl _)
   | (with_reducible exact LeO.none _)
   | (with_reducible refine LeO.ite ?_ ?_)
   | (with_reducible refine LeO.bind ?_ (fun _ => ?_))
   | exact graph_Check.mono _ _ _
   | exact precinctref12_Check.mono _ _ _
   | exact LeO.none _
   | refine LeO.ite ?_ ?_
   | refine LeO.bind ?_ (fun _ => ?_)
set_option maxHeartbeats 8000000 in
set_option maxRecDepth 100000 in
theorem precinctlaw12_GraphChecks.calls (k : Nat) (a0_0 : ByteArray) (A0_1 : Option Addr) (c0_1 : Nat) (l0_1 : List (S124)) (r : Bool) (w : World) (hr0_1 : Kd.C k124 w A0_1 l0_1.length l0_1) (hc0_1 : l0_1.length ≤ c0_1) (hT_ : Aside0 (r = true)) (h : precinctlaw12_GraphChecks.f k a0_0 l0_1 = some r) :
  Calls Try.prog 3 #[.agg #[.string a0_0, .slice A0_1 l0_1.length c0_1]] w fun e w' => e = .returned (.bool r) ∧ Below w.heap.size w w' := by
 have hu24 := Try.underlying24
 have hu27 := Try.underlying27
 have hu30 := Try.underlying30
 have HR0_1 := Aside0.mk hr0_1
 have HC0_1 := Aside0.mk hc0_1
 clear hr0_1 hc0_1
 have HB := Aside0.mk (Below.refl w.heap.size w)
 have H : ((precinctlaw12_flows.f a0_0 l0_1).bind fun bt179 => ((graph_Check.f k bt179.1 bt179.2.1).bind fun bt189 => ((precinctref12_Check.f k bt179.2.2.1 bt179.2.2.2).bind fun bt191 => ((precinctlaw12_wakes.f).bind fun t193 => (if t193 = true then (if bt189.1 = bt191.1 then (some (bt189.2 == bt191.2)) else (some false)) else (some false)))))) = some r := h
 clear h
 replace H := Option.bind_eq_some_iff.mp H
 obtain ⟨⟨t179, t180, t183, t184⟩, A20, H⟩ := H
 replace H : ((graph_Check.f k t179 t180).bind fun bt189 => ((precinctref12_Check.f k t183 t184).bind fun bt191 => ((precinctlaw12_wakes.f).bind fun t193 => (if t193 = true then (if bt189.1 = bt191.1 then (some (bt189.2 == bt191.2)) else (some false)) else (some false))))) = some r := H
 have A2 := Aside0.mk A20
 clear A20
 replace H := Option.bind_eq_some_iff.mp H
 obtain ⟨⟨t189, t190⟩, A30, H⟩ := H
 replace H : ((precinctref12_Check.f k t183 t184).bind fun bt191 => ((precinctlaw12_wakes.f).bind fun t193 => (if t193 = true then (if t189 = bt191.1 then (some (t190 == bt191.2)) else (some false)) else (some false)))) = some r := H
 have A3 := Aside0.mk A30
 clear A30
 replace H := Option.bind_eq_some_iff.mp H
 obtain ⟨⟨t191, t192⟩, A40, H⟩ := H
 replace H : ((precinctlaw12_wakes.f).bind fun t193 => (if t193 = true then (if t189 = t191 then (some (t190 == t192)) else (some false)) else (some false))) = some r := H
 have A4 := Aside0.mk A40
 clear A40
 replace H := Option.bind_eq_some_iff.mp H
 obtain ⟨t193, A50, H⟩ := H
 replace H : (if t193 = true then (if t189 = t191 then (some (t190 == t192)) else (some false)) else (some false)) = some r := H
 have A5 := Aside0.mk A50
 clear A50
 by_cases c6 : t193 = true
 ·subst c6
  have H1 : (if t189 = t191 then (some (t190 == t192)) else (some false)) = some r := by rw [if_pos rfl] at H; exact H
  clear H
  have H := H1
  clear H1
  by_cases c7 : t189 = t191
  ·rw [if_pos c7] at H
   have c7b0 : (t189 == t191) = true := beq_iff_eq.mpr c7
   have c7b1 : (t189 != t191) = false := bne_eq_false_iff_eq.mpr c7
   clear c7
   obtain rfl := Option.some.inj H
   go_enter Try.func3, Try.ntmps3
   go_wp2_with (first | ((with_reducible refine gate_dst (N := 1) rfl ?_); refine box_event ?hg (N := 1) ?hd (cs := #[.string a0_0, .slice A0_1 l0_1.length c0_1]) (t := 24) ?hr ?_; (case hd => rfl); (case hg => rfl); (case hr => first | (go_simp; done) | (go_simp; rfl)); intro gb178 hg w8 hbox hb; have n0_ := Aside0.mk (below_step bb hb); have n1_ := Aside0.mk (hbox); have n2_ := Aside0.mk ((by rw [hg]; exact (below_size bb) : w.heap.size ≤ gb178)); have n3_ := Aside0.mk ((by rw [hg]; exact (below_size bb) : w.heap.size ≤ gb178)); clear HB; have HB := n0_; have BK178 := n1_; have GW178 := n2_; have GE178 := n3_; clear n0_ n1_ n2_ n3_; clear hb hbox hg; have hcz9_0 : w8.cell? ⟨gb178, 0, none⟩ = some (.string a0_0) := (blk_cell BK178.out 0).trans rfl; have hcz9_1 : w8.cell? ⟨gb178, 1, none⟩ = some (.slice A0_1 l0_1.length c0_1) := (blk_cell BK178.out 1).trans rfl; have hfz9_0 := blk_frozen BK178.out 0; have hfz9_1 := blk_frozen BK178.out 1) | ((with_reducible refine gate_callee (f := 14) rfl ?_); refine goesL_ (some 11) rfl rfl Try.func14 (by kernel_rfl) rfl #[.agg #[.string a0_0, .slice A0_1 l0_1.length c0_1]] rfl ag ?_; (with_reducible refine (precinctlaw12_flows.calls a0_0 _ _ l0_1 t179 t180 t183 t184 _ ?side1 ?side2 A2.out).mono ?_); (case side1 => repeat (first | exact (Kd.C_below HR0_1.out HB.out) | (with_reducible refine Kd.C_alloc ?_ _) | (with_reducible refine Kd.C_drewN ?_ _) | (with_reducible refine Kd.C_drew ?_))); (case side2 => exact HC0_1.out); rintro e w10 ⟨v181, v185, rfl, ho0, ho1, hb⟩; refine ⟨_, rfl, ?_⟩; have n0_ := Aside0.mk (Kd.S_lower ho0 (below_size bb)); have n1_ := Aside0.mk (Kd.S_lower ho1 (below_size bb)); have n2_ := Aside0.mk (blk_below (rb BK178.out) hb); have n3_ := Aside0.mk (below_step bb hb); clear BK178; clear HB; have HO182 := n0_; have HO186 := n1_; have BK178 := n2_; have HB := n3_; clear n0_ n1_ n2_ n3_; (try clear hb); (try clear hb2); (try clear hk); (try clear hi); (try clear ho0); (try clear ho1)) | ((with_reducible refine gate_dst (N := 3) rfl ?_); refine box_event ?hg (N := 3) ?hd (cs := #[.string (⟨#[]⟩ : ByteArray), .slice none 0 0]) (t := 27) ?hr ?_; (case hd => rfl); (case hg => rfl); (case hr => first | (go_simp; done) | (go_simp; rfl)); intro gb187 hg w11 hbox hb; have n0_ := Aside0.mk (Kd.S_below (by (with_reducible repeat (first | apply Kd.S_alloc | apply Kd.S_drewN | apply Kd.S_drew)); exact HO182.out) hb); have n1_ := Aside0.mk (Kd.S_below (by (with_reducible repeat (first | apply Kd.S_alloc | apply Kd.S_drewN | apply Kd.S_drew)); exact HO186.out) hb); have n2_ := Aside0.mk (blk_below (rb BK178.out) hb); have n3_ := Aside0.mk (below_step bb hb); have n4_ := Aside0.mk (hbox); have n5_ := Aside0.mk ((by rw [hg]; exact (below_size bb) : w.heap.size ≤ gb187)); have n6_ := Aside0.mk ((by rw [hg]; exact (below_size bb) : w.heap.size ≤ gb187)); have n7_ := Aside0.mk ((by rw [hg]; exact Nat.ne_of_lt (blk_lt (rb BK178.out)) : gb178 ≠ gb187)); have n8_ := Aside0.mk ((by rw [hg]; exact Nat.ne_of_gt (blk_lt (rb BK178.out)) : gb187 ≠ gb178)); clear HO182; clear HO186; clear BK178; clear HB; have HO182 := n0_; have HO186 := n1_; have BK178 := n2_; have HB := n3_; have BK187 := n4_; have GW187 := n5_; have GE187 := n6_; have NB178_187 := n7_; have NB187_178 := n8_; clear n0_ n1_ n2_ n3_ n4_ n5_ n6_ n7_ n8_; clear hb hbox hg) | ((with_reducible refine gate_dst (N := 4) rfl ?_); refine box_event ?hg (N := 4) ?hd (cs := #[.string (⟨#[]⟩ : ByteArray), .slice none 0 0]) (t := 30) ?hr ?_; (case hd => rfl); (case hg => rfl); (case hr => first | (go_simp; done) | (go_simp; rfl)); intro gb188 hg w12 hbox hb; have n0_ := Aside0.mk (Kd.S_below (by (with_reducible repeat (first | apply Kd.S_alloc | apply Kd.S_drewN | apply Kd.S_drew)); exact HO182.out) hb); have n1_ := Aside0.mk (Kd.S_below (by (with_reducible repeat (first | apply Kd.S_alloc | apply Kd.S_drewN | apply Kd.S_drew)); exact HO186.out) hb); have n2_ := Aside0.mk (blk_below (rb BK178.out) hb); have n3_ := Aside0.mk (blk_below (g := gb187) (o := .cells #[.string (⟨#[]⟩ : ByteArray), .slice none 0 0] 27 (0, 0)) (rb BK187.out) hb); have n4_ := Aside0.mk (below_step bb hb); have n5_ := Aside0.mk (hbox); have n6_ := Aside0.mk ((by rw [hg]; exact (below_size bb) : w.heap.size ≤ gb188)); have n7_ := Aside0.mk ((by rw [hg]; exact (below_size bb) : w.heap.size ≤ gb188)); have n8_ := Aside0.mk ((by rw [hg]; exact Nat.ne_of_lt (blk_lt (rb BK178.out)) : gb178 ≠ gb188)); have n9_ := Aside0.mk ((by rw [hg]; exact Nat.ne_of_gt (blk_lt (rb BK178.out)) : gb188 ≠ gb178)); have n10_ := Aside0.mk ((by rw [hg]; exact Nat.ne_of_lt (blk_lt (g := gb187) (o := .cells #[.string (⟨#[]⟩ : ByteArray), .slice none 0 0] 27 (0, 0)) (rb BK187.out)) : gb187 ≠ gb188)); have n11_ := Aside0.mk ((by rw [hg]; exact Nat.ne_of_gt (blk_lt (g := gb187) (o := .cells #[.string (⟨#[]⟩ : ByteArray), .slice none 0 0] 27 (0, 0)) (rb BK187.out)) : gb188 ≠ gb187)); clear HO182; clear HO186; clear BK178; clear BK187; clear HB; have HO182 := n0_; have HO186 := n1_; have BK178 := n2_; have BK187 := n3_; have HB := n4_; have BK188 := n5_; have GW188 := n6_; have GE188 := n7_; have NB178_188 := n8_; have NB188_178 := n9_; have NB187_188 := n10_; have NB188_187 := n11_; clear n0_ n1_ n2_ n3_ n4_ n5_ n6_ n7_ n8_ n9_ n10_ n11_; clear hb hbox hg; have hnb13 := NB187_178.out; have hnc13 := NB178_187.out; have hnb14 := NB187_188.out; have hnc14 := NB188_187.out; have hcz15_0 : w12.cell? ⟨gb187, 0, none⟩ = some (.string (⟨#[]⟩ : ByteArray)) := (blk_cell BK187.out 0).trans rfl; have hcz15_1 : w12.cell? ⟨gb187, 1, none⟩ = some (.slice none 0 0) := (blk_cell BK187.out 1).trans rfl; have hfz15_0 := blk_frozen BK187.out 0; have hfz15_1 := blk_frozen BK187.out 1; obtain ⟨Ao16, co16, eo16⟩ := Kd.S_slice HO182.out; subst eo16; have hnb17 := NB188_178.out; have hnc17 := NB178_188.out; have hcz18_0 : w12.cell? ⟨gb188, 0, none⟩ = some (.string (⟨#[]⟩ : ByteArray)) := (blk_cell BK188.out 0).trans rfl; have hcz18_1 : w12.cell? ⟨gb188, 1, none⟩ = some (.slice none 0 0) := (blk_cell BK188.out 1).trans rfl; have hfz18_0 := blk_frozen BK188.out 0; have hfz18_1 := blk_frozen BK188.out 1; obtain ⟨Ao19, co19, eo19⟩ := Kd.S_slice HO186.out; subst eo19) | ((with_reducible refine gate_callee (f := 15) rfl ?_); refine goesL_ (some 16) rfl rfl Try.func15 (by kernel_rfl) rfl #[.agg #[.string t179, .slice Ao16 t180.length co16]] rfl ag ?_; (with_reducible refine (graph_Check.calls k t179 _ _ t180 t189 t190 _ ?side1 ?side2 A3.out).mono ?_); (case side1 => refine (Kd.S_reads' (e := 48) (base := w.heap.size) (ok := fun k_ => True) (n := t180.length) (c := co16) ?_).2.2; exact (by (with_reducible repeat (first | apply Kd.S_alloc | apply Kd.S_drewN | apply Kd.S_drew)); exact (Kd.S_mono (Kd.S_mono (Kd.S_far (p := ⟨gb188, 1, none⟩) (Kd.S_far (p := ⟨gb188, 0, none⟩) (Kd.S_far (p := ⟨gb187, 1, none⟩) (Kd.S_far (p := ⟨gb187, 0, none⟩) (Kd.S_types (Kd.S_types HO182.out BK187.out (by decide)) BK188.out (by decide)) (fun _ hk => hk.1.2) (.string t179)) (fun _ hk => hk.1.2) (.slice Ao16 t180.length co16)) (fun _ hk => hk.2) (.string t183)) (fun _ hk => hk.2) (.slice Ao19 t184.length co19)) (fun _ h_ => h_.1)) (fun _ h_ => h_.1)))); (case side2 => exact (Kd.S_reads' HO182.out).2.1); rintro e w20 ⟨rfl, hb⟩; refine ⟨_, rfl, ?_⟩; have n0_ := Aside0.mk (Kd.S_below (by (with_reducible repeat (first | apply Kd.S_alloc | apply Kd.S_drewN | apply Kd.S_drew)); exact (Kd.S_mono (Kd.S_mono (Kd.S_far (p := ⟨gb188, 1, none⟩) (Kd.S_far (p := ⟨gb188, 0, none⟩) (Kd.S_far (p := ⟨gb187, 1, none⟩) (Kd.S_far (p := ⟨gb187, 0, none⟩) (Kd.S_types (Kd.S_types HO182.out BK187.out (by decide)) BK188.out (by decide)) (fun _ hk => hk.1.2) (.string t179)) (fun _ hk => hk.1.2) (.slice Ao16 t180.length co16)) (fun _ hk => hk.2) (.string t183)) (fun _ hk => hk.2) (.slice Ao19 t184.length co19)) (fun _ h_ => h_.1)) (fun _ h_ => h_.1))) hb); have n1_ := Aside0.mk (Kd.S_below (by (with_reducible repeat (first | apply Kd.S_alloc | apply Kd.S_drewN | apply Kd.S_drew)); exact (Kd.S_mono (Kd.S_mono (Kd.S_far (p := ⟨gb188, 1, none⟩) (Kd.S_far (p := ⟨gb188, 0, none⟩) (Kd.S_far (p := ⟨gb187, 1, none⟩) (Kd.S_far (p := ⟨gb187, 0, none⟩) (Kd.S_types (Kd.S_types HO186.out BK187.out (by decide)) BK188.out (by decide)) (fun _ hk => hk.1.2) (.string t179)) (fun _ hk => hk.1.2) (.slice Ao16 t180.length co16)) (fun _ hk => hk.2) (.string t183)) (fun _ hk => hk.2) (.slice Ao19 t184.length co19)) (fun _ h_ => h_.1)) (fun _ h_ => h_.1))) hb); have n2_ := Aside0.mk (blk_below (rb (blk_far (rb (blk_far (rb (blk_far (rb (blk_far (rb BK178.out) NB178_187.out _)) NB178_187.out _)) NB178_188.out _)) NB178_188.out _)) hb); have n3_ := Aside0.mk (blk_below (rb (blk_far (rb (blk_far (rb (blk_put (cs := #[.string t179, .slice none 0 0]) (rb (blk_put (cs := #[.string (⟨#[]⟩ : ByteArray), .slice none 0 0]) (rb BK187.out) 0 _ rfl)) 1 _ rfl)) NB187_188.out _)) NB187_188.out _)) hb); have n4_ := Aside0.mk (blk_below (rb (blk_put (cs := #[.string t183, .slice none 0 0]) (rb (blk_put (cs := #[.string (⟨#[]⟩ : ByteArray), .slice none 0 0]) (rb (blk_far (rb (blk_far (rb BK188.out) NB188_187.out _)) NB188_187.out _)) 0 _ rfl)) 1 _ rfl)) hb); have n5_ := Aside0.mk (below_step bb hb); clear HO182; clear HO186; clear BK178; clear BK187; clear BK188; clear HB; have HO182 := n0_; have HO186 := n1_; have BK178 := n2_; have BK187 := n3_; have BK188 := n4_; have HB := n5_; clear n0_ n1_ n2_ n3_ n4_ n5_; (try clear hb); (try clear hb2); (try clear hk); (try clear hi); have hcz21_0 : w20.cell? ⟨gb188, 0, none⟩ = some (.string t183) := (blk_cell BK188.out 0).trans rfl; have hcz21_1 : w20.cell? ⟨gb188, 1, none⟩ = some (.slice Ao19 t184.length co19) := (blk_cell BK188.out 1).trans rfl; have hfz21_0 := blk_frozen BK188.out 0; have hfz21_1 := blk_frozen BK188.out 1) | ((with_reducible refine gate_callee (f := 16) rfl ?_); refine goesL_ (some 21) rfl rfl Try.func16 (by kernel_rfl) rfl #[.agg #[.string t183, .slice Ao19 t184.length co19]] rfl ag ?_; (with_reducible refine (precinctref12_Check.calls k t183 _ _ t184 t191 t192 _ ?side1 ?side2 A4.out).mono ?_); (case side1 => repeat (first | exact (Kd.S_reads' HO186.out).2.2 | (with_reducible refine Kd.C_alloc ?_ _) | (with_reducible refine Kd.C_drewN ?_ _) | (with_reducible refine Kd.C_drew ?_))); (case side2 => exact (Kd.S_reads' HO186.out).2.1); rintro e w22 ⟨rfl, hb⟩; refine ⟨_, rfl, ?_⟩; have n0_ := Aside0.mk (Kd.S_below (by (with_reducible repeat (first | apply Kd.S_alloc | apply Kd.S_drewN | apply Kd.S_drew)); exact HO182.out) hb); have n1_ := Aside0.mk (Kd.S_below (by (with_reducible repeat (first | apply Kd.S_alloc | apply Kd.S_drewN | apply Kd.S_drew)); exact HO186.out) hb); have n2_ := Aside0.mk (blk_below (rb BK178.out) hb); have n3_ := Aside0.mk (blk_below (rb BK187.out) hb); have n4_ := Aside0.mk (blk_below (rb BK188.out) hb); have n5_ := Aside0.mk (below_step bb hb); clear HO182; clear HO186; clear BK178; clear BK187; clear BK188; clear HB; have HO182 := n0_; have HO186 := n1_; have BK178 := n2_; have BK187 := n3_; have BK188 := n4_; have HB := n5_; clear n0_ n1_ n2_ n3_ n4_ n5_; (try clear hb); (try clear hb2); (try clear hk); (try clear hi)) | ((with_reducible refine gate_callee (f := 17) rfl ?_); refine goesL_ (some 24) rfl rfl Try.func17 (by kernel_rfl) rfl #[] rfl ag ?_; (with_reducible refine (precinctlaw12_wakes.calls  true _ A5.out).mono ?_); rintro e w23 ⟨rfl, hb⟩; refine ⟨_, rfl, ?_⟩; have n0_ := Aside0.mk (Kd.S_below (by (with_reducible repeat (first | apply Kd.S_alloc | apply Kd.S_drewN | apply Kd.S_drew)); exact HO182.out) hb); have n1_ := Aside0.mk (Kd.S_below (by (with_reducible repeat (first | apply Kd.S_alloc | apply Kd.S_drewN | apply Kd.S_drew)); exact HO186.out) hb); have n2_ := Aside0.mk (blk_below (rb BK178.out) hb); have n3_ := Aside0.mk (blk_below (rb BK187.out) hb); have n4_ := Aside0.mk (blk_below (rb BK188.out) hb); have n5_ := Aside0.mk (below_step bb hb); clear HO182; clear HO186; clear BK178; clear BK187; clear BK188; clear HB; have HO182 := n0_; have HO186 := n1_; have BK178 := n2_; have BK187 := n3_; have BK188 := n4_; have HB := n5_; clear n0_ n1_ n2_ n3_ n4_ n5_; (try clear hb); (try clear hb2); (try clear hk); (try clear hi)))
   go_ret
   exact ⟨by first | rfl | (simp [errW_none, errW_some] <;> rfl) | (simp [*, errW_none, errW_some] <;> rfl), bb⟩
  ·rw [if_neg c7] at H
   have c7b0 : (t189 == t191) = false := beq_eq_false_iff_ne.mpr c7
   have c7b1 : (t189 != t191) = true := bne_iff_ne.mpr c7
   exact absurd ((Option.some.inj H).trans hT_.out) (by decide)
 ·replace c6 := Bool.eq_false_iff.mpr c6
  subst c6
  have H1 : (some false) = some r := by rw [if_neg (show ¬ (false = true) by decide)] at H; exact H
  clear H
  have H := H1
  clear H1
  exact absurd ((Option.some.inj H).trans hT_.out) (by decide)

end Go.Proofs.Ytjicfkmpgogppaa.PG
