/-
  TokenParses: every bytes are parsed as the document says.
-/
import Derived.Test.YtpbnfnaebdmagaaDoorH1
import Derived.Test.YtpbnfnaebdmagaaDoorPTx12
import Derived.Test.YtpbnfnaebdmagaaDoorPTx18
import Derived.Test.YtpbnfnaebdmagaaDoorH4
import Derived.Test.YtpbnfnaebdmagaaDoorH0
import Derived.Test.YtpbnfnaebdmagaaDoorTokPR
-- printed by a program of this session out of the translation; see NOTES.md
namespace Go.Proofs.YtpbnfnaebdmagaaDoor.PT
open Go.RowKit Go.Proofs.YtpbnfnaebdmagaaDoorW.PrintWords Go.Proofs.YtpbnfnaebdmagaaDoorW.PrintLast Go.Proofs.YtpbnfnaebdmagaaDoorW.PrintMore Go.Proofs.YtpbnfnaebdmagaaDoorRb
attribute [local go_sem] max2_int min2_int max_two min_two max_three min_three max_four min_four   -- for this text's walks alone
set_option linter.unusedVariables false
set_option linter.unusedSimpArgs false

attribute [local go_sem high] eqA23
/-! ### precinctlaw09_TokenParses: function 3 -/
def precinctlaw09_TokenParses.f (k : Nat) (a0 : ByteArray) : Option (Bool) := (token_Parse.f k a0).bind fun bt307 => ((precinctref09_Parse.f k a0).bind fun bt314 => ((precinctlaw09_wakes.f k).bind fun t321 => (if t321 = true then (if (bt307.1 == bt314.1 && (bt307.2.1 == bt314.2.1 && (bt307.2.2.1 == bt314.2.2.1 && (bt307.2.2.2.1 == bt314.2.2.2.1)))) = true then (if bt307.2.2.2.2.1.toList = bt314.2.2.2.2.1.toList then (some (bt307.2.2.2.2.2 == bt314.2.2.2.2.2)) else (some false)) else (some false)) else (some false))))
theorem precinctlaw09_TokenParses.mono : ∀ a0 k, LeO (precinctlaw09_TokenParses.f k a0) (precinctlaw09_TokenParses.f (k + 1) a0) := by
 intro a0 k
 unfold precinctlaw09_TokenParses.f
 repeat' first
   | (with_reducible exact precinctlaw09_wakes.mono _)
   | (with_reducible exact precinctref09_Parse.mono _ _)
   | (with_reducible exact token_Parse.mono _ _)
   | (with_reducible exact LeO.refl _)
   | (with_reducible exact LeO.none _)
   | (with_reducible refine LeO.ite ?_ ?_)
   | (with_reducible refine LeO.bind ?_ (fun _ => ?_))
   | exact precinctlaw09_wakes.mono _
   | exact precinctref09_Parse.mono _ _
   | exact token_Parse.mono _ _
   | exact LeO.none _
   | refine LeO.ite ?_ ?_
   | refine LeO.bind ?_ (fun _ => ?_)
set_option maxHeartbeats 8000000 in
set_option maxRecDepth 100000 in
theorem precinctlaw09_TokenParses.calls (k : Nat) (a0 : ByteArray) (r : Bool) (w : World) (hT_ : Aside0 (r = true)) (h : precinctlaw09_TokenParses.f k a0 = some r) (HTab : Aside0 (Sha.Tab w) := by first | exact HTab | exact Aside0.mk (HTab.out.step (by repeat (first | (with_reducible first | exact HB.out | apply below_alloc | apply pw_below_drewN | apply below_drew1 | refine below_set ?_ (Aside0.out (by assumption))) | exact HB.out)))) :
  Calls Tryd.prog 3 #[.string a0] w fun e w' => e = .returned (.bool r) ∧ Below w.heap.size w w' := by
 have hu23 := Tryd.underlying23
 have hu27 := Tryd.underlying27
 have HB := Aside0.mk (Below.refl w.heap.size w)
 have H : ((token_Parse.f k a0).bind fun bt307 => ((precinctref09_Parse.f k a0).bind fun bt314 => ((precinctlaw09_wakes.f k).bind fun t321 => (if t321 = true then (if (bt307.1 == bt314.1 && (bt307.2.1 == bt314.2.1 && (bt307.2.2.1 == bt314.2.2.1 && (bt307.2.2.2.1 == bt314.2.2.2.1)))) = true then (if bt307.2.2.2.2.1.toList = bt314.2.2.2.2.1.toList then (some (bt307.2.2.2.2.2 == bt314.2.2.2.2.2)) else (some false)) else (some false)) else (some false))))) = some r := h
 clear h
 replace H := Option.bind_eq_some_iff.mp H
 obtain ⟨⟨t307, t308, t309, t310, t311, t312⟩, A20, H⟩ := H
 replace H : ((precinctref09_Parse.f k a0).bind fun bt314 => ((precinctlaw09_wakes.f k).bind fun t321 => (if t321 = true then (if (t307 == bt314.1 && (t308 == bt314.2.1 && (t309 == bt314.2.2.1 && (t310 == bt314.2.2.2.1)))) = true then (if t311.toList = bt314.2.2.2.2.1.toList then (some (t312 == bt314.2.2.2.2.2)) else (some false)) else (some false)) else (some false)))) = some r := H
 have A2 := Aside0.mk A20
 clear A20
 replace H := Option.bind_eq_some_iff.mp H
 obtain ⟨⟨t314, t315, t316, t317, t318, t319⟩, A30, H⟩ := H
 replace H : ((precinctlaw09_wakes.f k).bind fun t321 => (if t321 = true then (if (t307 == t314 && (t308 == t315 && (t309 == t316 && (t310 == t317)))) = true then (if t311.toList = t318.toList then (some (t312 == t319)) else (some false)) else (some false)) else (some false))) = some r := H
 have A3 := Aside0.mk A30
 clear A30
 replace H := Option.bind_eq_some_iff.mp H
 obtain ⟨t321, A40, H⟩ := H
 replace H : (if t321 = true then (if (t307 == t314 && (t308 == t315 && (t309 == t316 && (t310 == t317)))) = true then (if t311.toList = t318.toList then (some (t312 == t319)) else (some false)) else (some false)) else (some false)) = some r := H
 have A4 := Aside0.mk A40
 clear A40
 by_cases c5 : t321 = true
 ·subst c5
  have H1 : (if (t307 == t314 && (t308 == t315 && (t309 == t316 && (t310 == t317)))) = true then (if t311.toList = t318.toList then (some (t312 == t319)) else (some false)) else (some false)) = some r := by rw [if_pos rfl] at H; exact H
  clear H
  have H := H1
  clear H1
  by_cases c6 : (t307 == t314 && (t308 == t315 && (t309 == t316 && (t310 == t317)))) = true
  ·rw [if_pos c6] at H
   have c6b0 : (t307 == t314 && (t308 == t315 && (t309 == t316 && (t310 == t317)))) = true := c6
   (try (have c6b1 : decide (t307 = t314 && (t308 == t315 && (t309 == t316 && (t310 == t317)))) = true := by simpa using c6))
   (try (have c6b2 : (t307 == t314 && (t308 == t315 && (t309 == t316 && (t310 == t317)))) = true := by simpa using c6))
   obtain ⟨q0_, q1_, q2_, q3_⟩ : t307 = t314 ∧ t308 = t315 ∧ t309 = t316 ∧ t310 = t317 := by simpa using c6
   have q0a : (t307 == t314) = true := beq_iff_eq.mpr q0_
   have q0b : decide (t307 = t314) = true := decide_eq_true q0_
   have q0c : (t307 = t314) = True := eq_true q0_
   have q0d : (t307 != t314) = false := bne_eq_false_iff_eq.mpr q0_
   clear q0_
   have q1a : (t308 == t315) = true := beq_iff_eq.mpr q1_
   have q1b : decide (t308 = t315) = true := decide_eq_true q1_
   have q1c : (t308 = t315) = True := eq_true q1_
   have q1d : (t308 != t315) = false := bne_eq_false_iff_eq.mpr q1_
   clear q1_
   have q2a : (t309 == t316) = true := beq_iff_eq.mpr q2_
   have q2b : decide (t309 = t316) = true := decide_eq_true q2_
   have q2c : (t309 = t316) = True := eq_true q2_
   have q2d : (t309 != t316) = false := bne_eq_false_iff_eq.mpr q2_
   clear q2_
   have q3a : (t310 == t317) = true := beq_iff_eq.mpr q3_
   have q3b : decide (t310 = t317) = true := decide_eq_true q3_
   have q3c : (t310 = t317) = True := eq_true q3_
   have q3d : (t310 != t317) = false := bne_eq_false_iff_eq.mpr q3_
   clear q3_
   clear c6
   by_cases c7 : t311.toList = t318.toList
   ·rw [if_pos c7] at H
    have c7b0 : (t311.toList == t318.toList) = true := beq_iff_eq.mpr c7
    have c7b1 : (t311.toList != t318.toList) = false := bne_eq_false_iff_eq.mpr c7
    clear c7
    obtain rfl := Option.some.inj H
    go_enter Tryd.func3, Tryd.ntmps3
    go_wp2_with (first | ((with_reducible refine gate_callee (f := 9) rfl ?_); refine goesL_ (some 11) rfl rfl Tryd.func9 (by kernel_rfl) rfl #[.string a0] rfl ag ?_; (with_reducible refine (token_Parse.calls k a0 t307 t308 t309 t310 t311 t312 _ A2.out).mono ?_); rintro e w8 ⟨rfl, hb⟩; refine ⟨_, rfl, ?_⟩; have n0_ := Aside0.mk (below_step bb hb); clear HB; have HB := n0_; clear n0_; (try clear hb); (try clear hb2); (try clear hk); (try clear hi)) | ((with_reducible refine gate_dst (N := 3) rfl ?_); refine box_event ?hg (N := 3) ?hd (cs := #[.int .i64 0, .int .i64 0, .int .i64 0, .int .i64 0]) (t := 23) ?hr ?_; (case hd => rfl); (case hg => rfl); (case hr => first | (go_simp; done) | (go_simp; rfl)); intro gb313 hg w9 hbox hb; have n0_ := Aside0.mk (below_step bb hb); have n1_ := Aside0.mk (hbox); have n2_ := Aside0.mk ((by rw [hg]; exact (below_size bb) : w.heap.size ≤ gb313)); have n3_ := Aside0.mk ((by rw [hg]; exact (below_size bb) : w.heap.size ≤ gb313)); clear HB; have HB := n0_; have BK313 := n1_; have GW313 := n2_; have GE313 := n3_; clear n0_ n1_ n2_ n3_; clear hb hbox hg; have hcz10_0 : w9.cell? ⟨gb313, 0, none⟩ = some (.int .i64 0) := (blk_cell BK313.out 0).trans rfl; have hcz10_1 : w9.cell? ⟨gb313, 1, none⟩ = some (.int .i64 0) := (blk_cell BK313.out 1).trans rfl; have hcz10_2 : w9.cell? ⟨gb313, 2, none⟩ = some (.int .i64 0) := (blk_cell BK313.out 2).trans rfl; have hcz10_3 : w9.cell? ⟨gb313, 3, none⟩ = some (.int .i64 0) := (blk_cell BK313.out 3).trans rfl; have hfz10_0 := blk_frozen BK313.out 0; have hfz10_1 := blk_frozen BK313.out 1; have hfz10_2 := blk_frozen BK313.out 2; have hfz10_3 := blk_frozen BK313.out 3) | ((with_reducible refine gate_callee (f := 10) rfl ?_); refine goesL_ (some 17) rfl rfl Tryd.func10 (by kernel_rfl) rfl #[.string a0] rfl ag ?_; (with_reducible refine (precinctref09_Parse.calls k a0 t314 t315 t316 t317 t318 t319 _ A3.out).mono ?_); rintro e w11 ⟨rfl, hb⟩; refine ⟨_, rfl, ?_⟩; have n0_ := Aside0.mk (blk_below (rb (blk_put (cs := #[.int .i64 t307, .int .i64 t308, .int .i64 t309, .int .i64 0]) (rb (blk_put (cs := #[.int .i64 t307, .int .i64 t308, .int .i64 0, .int .i64 0]) (rb (blk_put (cs := #[.int .i64 t307, .int .i64 0, .int .i64 0, .int .i64 0]) (rb (blk_put (cs := #[.int .i64 0, .int .i64 0, .int .i64 0, .int .i64 0]) (rb BK313.out) 0 _ rfl)) 1 _ rfl)) 2 _ rfl)) 3 _ rfl)) hb); have n1_ := Aside0.mk (below_step bb hb); clear BK313; clear HB; have BK313 := n0_; have HB := n1_; clear n0_ n1_; (try clear hb); (try clear hb2); (try clear hk); (try clear hi)) | ((with_reducible refine gate_dst (N := 6) rfl ?_); refine box_event ?hg (N := 6) ?hd (cs := #[.int .i64 0, .int .i64 0, .int .i64 0, .int .i64 0]) (t := 27) ?hr ?_; (case hd => rfl); (case hg => rfl); (case hr => first | (go_simp; done) | (go_simp; rfl)); intro gb320 hg w12 hbox hb; have n0_ := Aside0.mk (blk_below (rb BK313.out) hb); have n1_ := Aside0.mk (below_step bb hb); have n2_ := Aside0.mk (hbox); have n3_ := Aside0.mk ((by rw [hg]; exact (below_size bb) : w.heap.size ≤ gb320)); have n4_ := Aside0.mk ((by rw [hg]; exact (below_size bb) : w.heap.size ≤ gb320)); have n5_ := Aside0.mk ((by rw [hg]; exact Nat.ne_of_lt (blk_lt (rb BK313.out)) : gb313 ≠ gb320)); have n6_ := Aside0.mk ((by rw [hg]; exact Nat.ne_of_gt (blk_lt (rb BK313.out)) : gb320 ≠ gb313)); clear BK313; clear HB; have BK313 := n0_; have HB := n1_; have BK320 := n2_; have GW320 := n3_; have GE320 := n4_; have NB313_320 := n5_; have NB320_313 := n6_; clear n0_ n1_ n2_ n3_ n4_ n5_ n6_; clear hb hbox hg; have hnb13 := NB320_313.out; have hnc13 := NB313_320.out; have hcz14_0 : w12.cell? ⟨gb320, 0, none⟩ = some (.int .i64 0) := (blk_cell BK320.out 0).trans rfl; have hcz14_1 : w12.cell? ⟨gb320, 1, none⟩ = some (.int .i64 0) := (blk_cell BK320.out 1).trans rfl; have hcz14_2 : w12.cell? ⟨gb320, 2, none⟩ = some (.int .i64 0) := (blk_cell BK320.out 2).trans rfl; have hcz14_3 : w12.cell? ⟨gb320, 3, none⟩ = some (.int .i64 0) := (blk_cell BK320.out 3).trans rfl; have hfz14_0 := blk_frozen BK320.out 0; have hfz14_1 := blk_frozen BK320.out 1; have hfz14_2 := blk_frozen BK320.out 2; have hfz14_3 := blk_frozen BK320.out 3) | ((with_reducible refine gate_callee (f := 11) rfl ?_); refine goesL_ (some 21) rfl rfl Tryd.func11 (by kernel_rfl) rfl #[] rfl ag ?_; (with_reducible refine (precinctlaw09_wakes.calls k  true _ A4.out).mono ?_); rintro e w15 ⟨rfl, hb⟩; refine ⟨_, rfl, ?_⟩; have n0_ := Aside0.mk (blk_below (rb (blk_far (rb (blk_far (rb (blk_far (rb (blk_far (rb BK313.out) NB313_320.out _)) NB313_320.out _)) NB313_320.out _)) NB313_320.out _)) hb); have n1_ := Aside0.mk (blk_below (rb (blk_put (cs := #[.int .i64 t314, .int .i64 t315, .int .i64 t316, .int .i64 0]) (rb (blk_put (cs := #[.int .i64 t314, .int .i64 t315, .int .i64 0, .int .i64 0]) (rb (blk_put (cs := #[.int .i64 t314, .int .i64 0, .int .i64 0, .int .i64 0]) (rb (blk_put (cs := #[.int .i64 0, .int .i64 0, .int .i64 0, .int .i64 0]) (rb BK320.out) 0 _ rfl)) 1 _ rfl)) 2 _ rfl)) 3 _ rfl)) hb); have n2_ := Aside0.mk (below_step bb hb); clear BK313; clear BK320; clear HB; have BK313 := n0_; have BK320 := n1_; have HB := n2_; clear n0_ n1_ n2_; (try clear hb); (try clear hb2); (try clear hk); (try clear hi); have hcz16_0 : w15.cell? ⟨gb313, 0, none⟩ = some (.int .i64 t307) := (blk_cell BK313.out 0).trans rfl; have hcz16_1 : w15.cell? ⟨gb313, 1, none⟩ = some (.int .i64 t308) := (blk_cell BK313.out 1).trans rfl; have hcz16_2 : w15.cell? ⟨gb313, 2, none⟩ = some (.int .i64 t309) := (blk_cell BK313.out 2).trans rfl; have hcz16_3 : w15.cell? ⟨gb313, 3, none⟩ = some (.int .i64 t310) := (blk_cell BK313.out 3).trans rfl; have hfz16_0 := blk_frozen BK313.out 0; have hfz16_1 := blk_frozen BK313.out 1; have hfz16_2 := blk_frozen BK313.out 2; have hfz16_3 := blk_frozen BK313.out 3; have hcz17_0 : w15.cell? ⟨gb320, 0, none⟩ = some (.int .i64 t314) := (blk_cell BK320.out 0).trans rfl; have hcz17_1 : w15.cell? ⟨gb320, 1, none⟩ = some (.int .i64 t315) := (blk_cell BK320.out 1).trans rfl; have hcz17_2 : w15.cell? ⟨gb320, 2, none⟩ = some (.int .i64 t316) := (blk_cell BK320.out 2).trans rfl; have hcz17_3 : w15.cell? ⟨gb320, 3, none⟩ = some (.int .i64 t317) := (blk_cell BK320.out 3).trans rfl; have hfz17_0 := blk_frozen BK320.out 0; have hfz17_1 := blk_frozen BK320.out 1; have hfz17_2 := blk_frozen BK320.out 2; have hfz17_3 := blk_frozen BK320.out 3))
    go_ret
    exact ⟨by first | rfl | (simp [errW_none, errW_some] <;> rfl) | (simp [*, errW_none, errW_some] <;> rfl), bb⟩
   ·rw [if_neg c7] at H
    have c7b0 : (t311.toList == t318.toList) = false := beq_eq_false_iff_ne.mpr c7
    have c7b1 : (t311.toList != t318.toList) = true := bne_iff_ne.mpr c7
    exact absurd ((Option.some.inj H).trans hT_.out) (by decide)
  ·rw [if_neg c6] at H
   have c6b0 : (t307 == t314 && (t308 == t315 && (t309 == t316 && (t310 == t317)))) = false := by simpa using c6
   (try (have c6b1 : decide (t307 = t314 && (t308 == t315 && (t309 == t316 && (t310 == t317)))) = false := by simpa using c6))
   (try (have c6b2 : (t307 == t314 && (t308 == t315 && (t309 == t316 && (t310 == t317)))) = false := by simpa using c6))
   (try (have c6b3 : ¬ (t307 = t314 && (t308 == t315 && (t309 == t316 && (t310 == t317)))) := by simpa using c6))
   clear c6
   exact absurd ((Option.some.inj H).trans hT_.out) (by decide)
 ·replace c5 := Bool.eq_false_iff.mpr c5
  subst c5
  have H1 : (some false) = some r := by rw [if_neg (show ¬ (false = true) by decide)] at H; exact H
  clear H
  have H := H1
  clear H1
  exact absurd ((Option.some.inj H).trans hT_.out) (by decide)

/-- THE ONE PURE STATEMENT of precinctlaw09_TokenParses: yours. -/
def precinctlaw09_TokenParses.Pure : Prop := ∀ (a0 : ByteArray), a0.size ≤ 140737488351232 → ∃ k, precinctlaw09_TokenParses.f k a0 = some true
theorem precinctlaw09_TokenParses.walk (P : precinctlaw09_TokenParses.Pure) (a0 : ByteArray) (w : World) (w0 : a0.size ≤ 140737488351232) (HTab : Aside0 (Sha.Tab w)) :
  Calls Tryd.prog 3 #[.string a0] w fun e w' => e = .returned (.bool true) ∧ Below w.heap.size w w' := by
 obtain ⟨k, h⟩ := P a0 w0
 refine (precinctlaw09_TokenParses.calls k a0 true w ⟨rfl⟩ h).mono ?_
 rintro e w' ⟨rfl, hd⟩
 exact ⟨rfl, hd⟩

end Go.Proofs.YtpbnfnaebdmagaaDoor.PT
namespace Go.Proofs.YtpbnfnaebdmagaaDoor.Tk
set_option linter.unusedVariables false
set_option linter.unusedSimpArgs false
open Go Go.RowKit Go.Proofs.YtpbnfnaebdmagaaDoor.Plain Go.Proofs.YtpbnfnaebdmagaaDoor.PT Go.Proofs.YtpbnfnaebdmagaaDoorW.PrintWords Go.Proofs.YtpbnfnaebdmagaaDoorW.PrintLast Go.Proofs.YtpbnfnaebdmagaaDoorW.PrintMore
theorem parses_pure : precinctlaw09_TokenParses.Pure := by
  intro s hs
  obtain ⟨K1, e1⟩ := rparse_some s hs
  obtain ⟨K2, e2⟩ := wakes_some
  refine ⟨max K1 K2 + 1, ?_⟩
  unfold precinctlaw09_TokenParses.f
  rw [parse_some s hs, Option.bind_some, e1 _ (by omega), Option.bind_some, e2 _ (by omega), Option.bind_some, if_pos rfl]
  simp
theorem parses_walk (s : ByteArray) (w : World) (HT : Sha.Tab w) (hs : s.size ≤ 140737488351232) :
    Calls Tryd.prog 3 #[.string s] w fun e w' => e = .returned (.bool true) ∧ Below w.heap.size w w' :=
  precinctlaw09_TokenParses.walk parses_pure s w hs ⟨HT⟩
end Go.Proofs.YtpbnfnaebdmagaaDoor.Tk
