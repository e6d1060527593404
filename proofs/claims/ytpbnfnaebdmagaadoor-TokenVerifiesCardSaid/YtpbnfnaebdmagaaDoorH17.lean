/-
  What the document's Verify comes to.
  TokenVerifies: every bytes are verified as the document says.
-/
import Derived.Test.YtpbnfnaebdmagaaDoorH1
import Derived.Test.YtpbnfnaebdmagaaDoorH4
import Derived.Test.YtpbnfnaebdmagaaDoorPTx55
import Derived.Test.YtpbnfnaebdmagaaDoorPTx56
import Derived.Test.YtpbnfnaebdmagaaDoorH0
import Derived.Test.YtpbnfnaebdmagaaDoorTokV
import Derived.Test.YtpbnfnaebdmagaaDoorTokPR
import Derived.Test.YtpbnfnaebdmagaaDoorH9
-- printed by a program of this session out of the translation; see NOTES.md
namespace Go.Proofs.YtpbnfnaebdmagaaDoor.PT
open Go.RowKit Go.Proofs.YtpbnfnaebdmagaaDoorW.PrintWords Go.Proofs.YtpbnfnaebdmagaaDoorW.PrintLast Go.Proofs.YtpbnfnaebdmagaaDoorW.PrintMore Go.Proofs.YtpbnfnaebdmagaaDoorRb
attribute [local go_sem] max2_int min2_int max_two min_two max_three min_three max_four min_four   -- for this text's walks alone
set_option linter.unusedVariables false
set_option linter.unusedSimpArgs false

attribute [local go_sem high] eqA23
/-! ### precinctlaw09_TokenVerifies: function 5 -/
def precinctlaw09_TokenVerifies.f (k : Nat) (a0 : ByteArray) (a1_0 : ByteArray) (a1_1 : Int) (a1_2 : Int) : Option (Bool) := if 0 ≤ (mn (a1_0.size : Int) 500) then (if (mn (a1_0.size : Int) 500) ≤ (a1_0.size : Int) then (if 0 ≤ (mn (a0.size : Int) 2000) then (if (mn (a0.size : Int) 2000) ≤ (a0.size : Int) then ((token_Verify.f k (a1_0.extract 0 ((mn (a1_0.size : Int) 500) : Int).toNat) (a0.extract 0 ((mn (a0.size : Int) 2000) : Int).toNat) a1_1 a1_2).bind fun bt402 => ((precinctref09_Verify.f k (a1_0.extract 0 ((mn (a1_0.size : Int) 500) : Int).toNat) (a0.extract 0 ((mn (a0.size : Int) 2000) : Int).toNat) a1_1 a1_2).bind fun bt408 => ((precinctlaw09_wakes.f k).bind fun t414 => (if t414 = true then (if (bt402.1 == bt408.1 && (bt402.2.1 == bt408.2.1 && (bt402.2.2.1 == bt408.2.2.1 && (bt402.2.2.2.1 == bt408.2.2.2.1)))) = true then (some (bt402.2.2.2.2 == bt408.2.2.2.2)) else (some false)) else (some false))))) else (none)) else (none)) else (none)) else (none)
theorem precinctlaw09_TokenVerifies.mono : ∀ a0 a1 a2 a3 k, LeO (precinctlaw09_TokenVerifies.f k a0 a1 a2 a3) (precinctlaw09_TokenVerifies.f (k + 1) a0 a1 a2 a3) := by
 intro a0 a1 a2 a3 k
 unfold precinctlaw09_TokenVerifies.f
 repeat' first
   | (with_reducible exact precinctlaw09_wakes.mono _)
   | (with_reducible exact precinctref09_Verify.mono _ _ _ _ _)
   | (with_reducible exact token_Verify.mono _ _ _ _ _)
   | (with_reducible exact LeO.refl _)
   | (with_reducible exact LeO.none _)
   | (with_reducible refine LeO.ite ?_ ?_)
   | (with_reducible refine LeO.bind ?_ (fun _ => ?_))
   | exact precinctlaw09_wakes.mono _
   | exact precinctref09_Verify.mono _ _ _ _ _
   | exact token_Verify.mono _ _ _ _ _
   | exact LeO.none _
   | refine LeO.ite ?_ ?_
   | refine LeO.bind ?_ (fun _ => ?_)
set_option maxHeartbeats 8000000 in
set_option maxRecDepth 100000 in
theorem precinctlaw09_TokenVerifies.calls (k : Nat) (a0 : ByteArray) (a1_0 : ByteArray) (a1_1 : Int) (a1_2 : Int) (r : Bool) (w : World) (hT_ : Aside0 (r = true)) (h : precinctlaw09_TokenVerifies.f k a0 a1_0 a1_1 a1_2 = some r) (HTab : Aside0 (Sha.Tab w) := by first | exact HTab | exact Aside0.mk (HTab.out.step (by repeat (first | (with_reducible first | exact HB.out | apply below_alloc | apply pw_below_drewN | apply below_drew1 | refine below_set ?_ (Aside0.out (by assumption))) | exact HB.out)))) :
  Calls Tryd.prog 5 #[.string a0, .agg #[.string a1_0, .int .i64 a1_1, .int .i64 a1_2]] w fun e w' => e = .returned (.bool r) ∧ Below w.heap.size w w' := by
 have hu38 := Tryd.underlying38
 have hu23 := Tryd.underlying23
 have hu27 := Tryd.underlying27
 have HB := Aside0.mk (Below.refl w.heap.size w)
 have H : (if 0 ≤ (mn (a1_0.size : Int) 500) then (if (mn (a1_0.size : Int) 500) ≤ (a1_0.size : Int) then (if 0 ≤ (mn (a0.size : Int) 2000) then (if (mn (a0.size : Int) 2000) ≤ (a0.size : Int) then ((token_Verify.f k (a1_0.extract 0 ((mn (a1_0.size : Int) 500) : Int).toNat) (a0.extract 0 ((mn (a0.size : Int) 2000) : Int).toNat) a1_1 a1_2).bind fun bt402 => ((precinctref09_Verify.f k (a1_0.extract 0 ((mn (a1_0.size : Int) 500) : Int).toNat) (a0.extract 0 ((mn (a0.size : Int) 2000) : Int).toNat) a1_1 a1_2).bind fun bt408 => ((precinctlaw09_wakes.f k).bind fun t414 => (if t414 = true then (if (bt402.1 == bt408.1 && (bt402.2.1 == bt408.2.1 && (bt402.2.2.1 == bt408.2.2.1 && (bt402.2.2.2.1 == bt408.2.2.2.1)))) = true then (some (bt402.2.2.2.2 == bt408.2.2.2.2)) else (some false)) else (some false))))) else (none)) else (none)) else (none)) else (none)) = some r := h
 clear h
 obtain ⟨ji3, hji3⟩ : ∃ j_ : Int, (mn (a1_0.size : Int) 500) = j_ := ⟨_, rfl⟩
 replace H : (if 0 ≤ (ji3) then (if (ji3) ≤ (a1_0.size : Int) then (if 0 ≤ (mn (a0.size : Int) 2000) then (if (mn (a0.size : Int) 2000) ≤ (a0.size : Int) then ((token_Verify.f k (a1_0.extract 0 ((ji3) : Int).toNat) (a0.extract 0 ((mn (a0.size : Int) 2000) : Int).toNat) a1_1 a1_2).bind fun bt402 => ((precinctref09_Verify.f k (a1_0.extract 0 ((ji3) : Int).toNat) (a0.extract 0 ((mn (a0.size : Int) 2000) : Int).toNat) a1_1 a1_2).bind fun bt408 => ((precinctlaw09_wakes.f k).bind fun t414 => (if t414 = true then (if (bt402.1 == bt408.1 && (bt402.2.1 == bt408.2.1 && (bt402.2.2.1 == bt408.2.2.1 && (bt402.2.2.2.1 == bt408.2.2.2.1)))) = true then (some (bt402.2.2.2.2 == bt408.2.2.2.2)) else (some false)) else (some false))))) else (none)) else (none)) else (none)) else (none)) = some r := by first | (rw [hji3] at H; exact H) | (simp only [hji3] at H ⊢; exact H)
 (try (have hji3h : ji3 ≤ 500 := by (rw [← hji3]; unfold mn; (repeat' split) <;> omega)))
 (try (have hji3g : ji3 ≤ 64 := by omega))
 (try (have hji3l : 0 ≤ ji3 := by (rw [← hji3]; unfold mn; (repeat' split) <;> omega)))
 (try (have hji3m : 0 ≤ ji3 := by omega))
 have hji3_ : (if 500 < (a1_0.size : Int) then 500 else (a1_0.size : Int)) = ji3 := hji3
 by_cases c4 : 0 ≤ (ji3)
 ·rw [if_pos c4] at H
  have c4b0 := eq_true c4
  have c4b1 : decide (0 ≤ (ji3)) = true := decide_eq_true c4
  clear c4
  by_cases c5 : (ji3) ≤ (a1_0.size : Int)
  ·rw [if_pos c5] at H
   have c5b0 := eq_true c5
   have c5b1 : decide ((ji3) ≤ (a1_0.size : Int)) = true := decide_eq_true c5
   clear c5
   obtain ⟨ji6, hji6⟩ : ∃ j_ : Int, (mn (a0.size : Int) 2000) = j_ := ⟨_, rfl⟩
   replace H : (if 0 ≤ (ji6) then (if (ji6) ≤ (a0.size : Int) then ((token_Verify.f k (a1_0.extract 0 ((ji3) : Int).toNat) (a0.extract 0 ((ji6) : Int).toNat) a1_1 a1_2).bind fun bt402 => ((precinctref09_Verify.f k (a1_0.extract 0 ((ji3) : Int).toNat) (a0.extract 0 ((ji6) : Int).toNat) a1_1 a1_2).bind fun bt408 => ((precinctlaw09_wakes.f k).bind fun t414 => (if t414 = true then (if (bt402.1 == bt408.1 && (bt402.2.1 == bt408.2.1 && (bt402.2.2.1 == bt408.2.2.1 && (bt402.2.2.2.1 == bt408.2.2.2.1)))) = true then (some (bt402.2.2.2.2 == bt408.2.2.2.2)) else (some false)) else (some false))))) else (none)) else (none)) = some r := by first | (rw [hji6] at H; exact H) | (simp only [hji6] at H ⊢; exact H)
   (try (have hji6h : ji6 ≤ 2000 := by (rw [← hji6]; unfold mn; (repeat' split) <;> omega)))
   (try (have hji6g : ji6 ≤ 64 := by omega))
   (try (have hji6l : 0 ≤ ji6 := by (rw [← hji6]; unfold mn; (repeat' split) <;> omega)))
   (try (have hji6m : 0 ≤ ji6 := by omega))
   have hji6_ : (if 2000 < (a0.size : Int) then 2000 else (a0.size : Int)) = ji6 := hji6
   by_cases c7 : 0 ≤ (ji6)
   ·rw [if_pos c7] at H
    have c7b0 := eq_true c7
    have c7b1 : decide (0 ≤ (ji6)) = true := decide_eq_true c7
    clear c7
    by_cases c8 : (ji6) ≤ (a0.size : Int)
    ·rw [if_pos c8] at H
     have c8b0 := eq_true c8
     have c8b1 : decide ((ji6) ≤ (a0.size : Int)) = true := decide_eq_true c8
     clear c8
     replace H := Option.bind_eq_some_iff.mp H
     obtain ⟨⟨t402, t403, t404, t405, t406⟩, A90, H⟩ := H
     replace H : ((precinctref09_Verify.f k (a1_0.extract 0 ((ji3) : Int).toNat) (a0.extract 0 ((ji6) : Int).toNat) a1_1 a1_2).bind fun bt408 => ((precinctlaw09_wakes.f k).bind fun t414 => (if t414 = true then (if (t402 == bt408.1 && (t403 == bt408.2.1 && (t404 == bt408.2.2.1 && (t405 == bt408.2.2.2.1)))) = true then (some (t406 == bt408.2.2.2.2)) else (some false)) else (some false)))) = some r := H
     have A9 := Aside0.mk A90
     clear A90
     replace H := Option.bind_eq_some_iff.mp H
     obtain ⟨⟨t408, t409, t410, t411, t412⟩, A100, H⟩ := H
     replace H : ((precinctlaw09_wakes.f k).bind fun t414 => (if t414 = true then (if (t402 == t408 && (t403 == t409 && (t404 == t410 && (t405 == t411)))) = true then (some (t406 == t412)) else (some false)) else (some false))) = some r := H
     have A10 := Aside0.mk A100
     clear A100
     replace H := Option.bind_eq_some_iff.mp H
     obtain ⟨t414, A110, H⟩ := H
     replace H : (if t414 = true then (if (t402 == t408 && (t403 == t409 && (t404 == t410 && (t405 == t411)))) = true then (some (t406 == t412)) else (some false)) else (some false)) = some r := H
     have A11 := Aside0.mk A110
     clear A110
     by_cases c12 : t414 = true
     ·subst c12
      have H1 : (if (t402 == t408 && (t403 == t409 && (t404 == t410 && (t405 == t411)))) = true then (some (t406 == t412)) else (some false)) = some r := by rw [if_pos rfl] at H; exact H
      clear H
      have H := H1
      clear H1
      by_cases c13 : (t402 == t408 && (t403 == t409 && (t404 == t410 && (t405 == t411)))) = true
      ·rw [if_pos c13] at H
       have c13b0 : (t402 == t408 && (t403 == t409 && (t404 == t410 && (t405 == t411)))) = true := c13
       (try (have c13b1 : decide (t402 = t408 && (t403 == t409 && (t404 == t410 && (t405 == t411)))) = true := by simpa using c13))
       (try (have c13b2 : (t402 == t408 && (t403 == t409 && (t404 == t410 && (t405 == t411)))) = true := by simpa using c13))
       obtain ⟨q0_, q1_, q2_, q3_⟩ : t402 = t408 ∧ t403 = t409 ∧ t404 = t410 ∧ t405 = t411 := by simpa using c13
       have q0a : (t402 == t408) = true := beq_iff_eq.mpr q0_
       have q0b : decide (t402 = t408) = true := decide_eq_true q0_
       have q0c : (t402 = t408) = True := eq_true q0_
       have q0d : (t402 != t408) = false := bne_eq_false_iff_eq.mpr q0_
       clear q0_
       have q1a : (t403 == t409) = true := beq_iff_eq.mpr q1_
       have q1b : decide (t403 = t409) = true := decide_eq_true q1_
       have q1c : (t403 = t409) = True := eq_true q1_
       have q1d : (t403 != t409) = false := bne_eq_false_iff_eq.mpr q1_
       clear q1_
       have q2a : (t404 == t410) = true := beq_iff_eq.mpr q2_
       have q2b : decide (t404 = t410) = true := decide_eq_true q2_
       have q2c : (t404 = t410) = True := eq_true q2_
       have q2d : (t404 != t410) = false := bne_eq_false_iff_eq.mpr q2_
       clear q2_
       have q3a : (t405 == t411) = true := beq_iff_eq.mpr q3_
       have q3b : decide (t405 = t411) = true := decide_eq_true q3_
       have q3c : (t405 = t411) = True := eq_true q3_
       have q3d : (t405 != t411) = false := bne_eq_false_iff_eq.mpr q3_
       clear q3_
       clear c13
       obtain rfl := Option.some.inj H
       go_enter Tryd.func5, Tryd.ntmps5
       go_wp2_with (first | ((with_reducible refine gate_dst (N := 3) rfl ?_); refine box_event ?hg (N := 3) ?hd (cs := #[.string a1_0, .int .i64 a1_1, .int .i64 a1_2]) (t := 38) ?hr ?_; (case hd => rfl); (case hg => rfl); (case hr => first | (go_simp; done) | (go_simp; rfl)); intro gb401 hg w14 hbox hb; have n0_ := Aside0.mk (below_step bb hb); have n1_ := Aside0.mk (hbox); have n2_ := Aside0.mk ((by rw [hg]; exact (below_size bb) : w.heap.size ≤ gb401)); have n3_ := Aside0.mk ((by rw [hg]; exact (below_size bb) : w.heap.size ≤ gb401)); clear HB; have HB := n0_; have BK401 := n1_; have GW401 := n2_; have GE401 := n3_; clear n0_ n1_ n2_ n3_; clear hb hbox hg; have hcz15_0 : w14.cell? ⟨gb401, 0, none⟩ = some (.string a1_0) := (blk_cell BK401.out 0).trans rfl; have hcz15_1 : w14.cell? ⟨gb401, 1, none⟩ = some (.int .i64 a1_1) := (blk_cell BK401.out 1).trans rfl; have hcz15_2 : w14.cell? ⟨gb401, 2, none⟩ = some (.int .i64 a1_2) := (blk_cell BK401.out 2).trans rfl; have hfz15_0 := blk_frozen BK401.out 0; have hfz15_1 := blk_frozen BK401.out 1; have hfz15_2 := blk_frozen BK401.out 2) | ((with_reducible refine gate_callee (f := 16) rfl ?_); refine goesL_ (some 30) rfl rfl Tryd.func16 (by kernel_rfl) rfl #[.string (a1_0.extract 0 ((ji3) : Int).toNat), .string (a0.extract 0 ((ji6) : Int).toNat), .int .i64 a1_1, .int .i64 a1_2] rfl (by (try simp only [List.map_toArray, List.map_cons, List.map_nil]); first | done | (simp only [hji3, hji6]; rfl) | rfl | (simp only [List.length_drop, List.length_take]; rfl)) ?_; (with_reducible refine (token_Verify.calls k (a1_0.extract 0 ((ji3) : Int).toNat) (a0.extract 0 ((ji6) : Int).toNat) a1_1 a1_2 t402 t403 t404 t405 t406 _ A9.out).mono ?_); rintro e w16 ⟨rfl, hb⟩; refine ⟨_, rfl, ?_⟩; have n0_ := Aside0.mk (blk_below (rb (blk_put (cs := #[.string a1_0, .int .i64 a1_1, .int .i64 a1_2]) (rb BK401.out) 0 _ rfl)) hb); have n1_ := Aside0.mk (below_step bb hb); clear BK401; clear HB; have BK401 := n0_; have HB := n1_; clear n0_ n1_; (try clear hb); (try clear hb2); (try clear hk); (try clear hi)) | ((with_reducible refine gate_dst (N := 5) rfl ?_); refine box_event ?hg (N := 5) ?hd (cs := #[.int .i64 0, .int .i64 0, .int .i64 0, .int .i64 0]) (t := 23) ?hr ?_; (case hd => rfl); (case hg => rfl); (case hr => first | (go_simp; done) | (go_simp; rfl)); intro gb407 hg w17 hbox hb; have n0_ := Aside0.mk (blk_below (rb BK401.out) hb); have n1_ := Aside0.mk (below_step bb hb); have n2_ := Aside0.mk (hbox); have n3_ := Aside0.mk ((by rw [hg]; exact (below_size bb) : w.heap.size ≤ gb407)); have n4_ := Aside0.mk ((by rw [hg]; exact (below_size bb) : w.heap.size ≤ gb407)); have n5_ := Aside0.mk ((by rw [hg]; exact Nat.ne_of_lt (blk_lt (rb BK401.out)) : gb401 ≠ gb407)); have n6_ := Aside0.mk ((by rw [hg]; exact Nat.ne_of_gt (blk_lt (rb BK401.out)) : gb407 ≠ gb401)); clear BK401; clear HB; have BK401 := n0_; have HB := n1_; have BK407 := n2_; have GW407 := n3_; have GE407 := n4_; have NB401_407 := n5_; have NB407_401 := n6_; clear n0_ n1_ n2_ n3_ n4_ n5_ n6_; clear hb hbox hg; have hnb18 := NB407_401.out; have hnc18 := NB401_407.out; have hcz19_0 : w17.cell? ⟨gb407, 0, none⟩ = some (.int .i64 0) := (blk_cell BK407.out 0).trans rfl; have hcz19_1 : w17.cell? ⟨gb407, 1, none⟩ = some (.int .i64 0) := (blk_cell BK407.out 1).trans rfl; have hcz19_2 : w17.cell? ⟨gb407, 2, none⟩ = some (.int .i64 0) := (blk_cell BK407.out 2).trans rfl; have hcz19_3 : w17.cell? ⟨gb407, 3, none⟩ = some (.int .i64 0) := (blk_cell BK407.out 3).trans rfl; have hfz19_0 := blk_frozen BK407.out 0; have hfz19_1 := blk_frozen BK407.out 1; have hfz19_2 := blk_frozen BK407.out 2; have hfz19_3 := blk_frozen BK407.out 3; have hcz20_0 : w17.cell? ⟨gb401, 0, none⟩ = some (.string (a1_0.extract 0 ((ji3) : Int).toNat)) := (blk_cell BK401.out 0).trans rfl; have hcz20_1 : w17.cell? ⟨gb401, 1, none⟩ = some (.int .i64 a1_1) := (blk_cell BK401.out 1).trans rfl; have hcz20_2 : w17.cell? ⟨gb401, 2, none⟩ = some (.int .i64 a1_2) := (blk_cell BK401.out 2).trans rfl; have hfz20_0 := blk_frozen BK401.out 0; have hfz20_1 := blk_frozen BK401.out 1; have hfz20_2 := blk_frozen BK401.out 2) | ((with_reducible refine gate_callee (f := 17) rfl ?_); refine goesL_ (some 41) rfl rfl Tryd.func17 (by kernel_rfl) rfl #[.string (a1_0.extract 0 ((ji3) : Int).toNat), .string (a0.extract 0 ((ji6) : Int).toNat), .int .i64 a1_1, .int .i64 a1_2] rfl (by (try simp only [List.map_toArray, List.map_cons, List.map_nil]); first | done | (simp only [hji3, hji6]; rfl) | rfl | (simp only [List.length_drop, List.length_take]; rfl)) ?_; (with_reducible refine (precinctref09_Verify.calls k (a1_0.extract 0 ((ji3) : Int).toNat) (a0.extract 0 ((ji6) : Int).toNat) a1_1 a1_2 t408 t409 t410 t411 t412 _ A10.out).mono ?_); rintro e w21 ⟨rfl, hb⟩; refine ⟨_, rfl, ?_⟩; have n0_ := Aside0.mk (blk_below (rb (blk_far (rb (blk_far (rb (blk_far (rb (blk_far (rb BK401.out) NB401_407.out _)) NB401_407.out _)) NB401_407.out _)) NB401_407.out _)) hb); have n1_ := Aside0.mk (blk_below (rb (blk_put (cs := #[.int .i64 t402, .int .i64 t403, .int .i64 t404, .int .i64 0]) (rb (blk_put (cs := #[.int .i64 t402, .int .i64 t403, .int .i64 0, .int .i64 0]) (rb (blk_put (cs := #[.int .i64 t402, .int .i64 0, .int .i64 0, .int .i64 0]) (rb (blk_put (cs := #[.int .i64 0, .int .i64 0, .int .i64 0, .int .i64 0]) (rb BK407.out) 0 _ rfl)) 1 _ rfl)) 2 _ rfl)) 3 _ rfl)) hb); have n2_ := Aside0.mk (below_step bb hb); clear BK401; clear BK407; clear HB; have BK401 := n0_; have BK407 := n1_; have HB := n2_; clear n0_ n1_ n2_; (try clear hb); (try clear hb2); (try clear hk); (try clear hi)) | ((with_reducible refine gate_dst (N := 7) rfl ?_); refine box_event ?hg (N := 7) ?hd (cs := #[.int .i64 0, .int .i64 0, .int .i64 0, .int .i64 0]) (t := 27) ?hr ?_; (case hd => rfl); (case hg => rfl); (case hr => first | (go_simp; done) | (go_simp; rfl)); intro gb413 hg w22 hbox hb; have n0_ := Aside0.mk (blk_below (rb BK401.out) hb); have n1_ := Aside0.mk (blk_below (rb BK407.out) hb); have n2_ := Aside0.mk (below_step bb hb); have n3_ := Aside0.mk (hbox); have n4_ := Aside0.mk ((by rw [hg]; exact (below_size bb) : w.heap.size ≤ gb413)); have n5_ := Aside0.mk ((by rw [hg]; exact (below_size bb) : w.heap.size ≤ gb413)); have n6_ := Aside0.mk ((by rw [hg]; exact Nat.ne_of_lt (blk_lt (rb BK401.out)) : gb401 ≠ gb413)); have n7_ := Aside0.mk ((by rw [hg]; exact Nat.ne_of_gt (blk_lt (rb BK401.out)) : gb413 ≠ gb401)); have n8_ := Aside0.mk ((by rw [hg]; exact Nat.ne_of_lt (blk_lt (rb BK407.out)) : gb407 ≠ gb413)); have n9_ := Aside0.mk ((by rw [hg]; exact Nat.ne_of_gt (blk_lt (rb BK407.out)) : gb413 ≠ gb407)); clear BK401; clear BK407; clear HB; have BK401 := n0_; have BK407 := n1_; have HB := n2_; have BK413 := n3_; have GW413 := n4_; have GE413 := n5_; have NB401_413 := n6_; have NB413_401 := n7_; have NB407_413 := n8_; have NB413_407 := n9_; clear n0_ n1_ n2_ n3_ n4_ n5_ n6_ n7_ n8_ n9_; clear hb hbox hg; have hnb23 := NB413_401.out; have hnc23 := NB401_413.out; have hnb24 := NB413_407.out; have hnc24 := NB407_413.out; have hcz25_0 : w22.cell? ⟨gb413, 0, none⟩ = some (.int .i64 0) := (blk_cell BK413.out 0).trans rfl; have hcz25_1 : w22.cell? ⟨gb413, 1, none⟩ = some (.int .i64 0) := (blk_cell BK413.out 1).trans rfl; have hcz25_2 : w22.cell? ⟨gb413, 2, none⟩ = some (.int .i64 0) := (blk_cell BK413.out 2).trans rfl; have hcz25_3 : w22.cell? ⟨gb413, 3, none⟩ = some (.int .i64 0) := (blk_cell BK413.out 3).trans rfl; have hfz25_0 := blk_frozen BK413.out 0; have hfz25_1 := blk_frozen BK413.out 1; have hfz25_2 := blk_frozen BK413.out 2; have hfz25_3 := blk_frozen BK413.out 3) | ((with_reducible refine gate_callee (f := 11) rfl ?_); refine goesL_ (some 44) rfl rfl Tryd.func11 (by kernel_rfl) rfl #[] rfl ag ?_; (with_reducible refine (precinctlaw09_wakes.calls k  true _ A11.out).mono ?_); rintro e w26 ⟨rfl, hb⟩; refine ⟨_, rfl, ?_⟩; have n0_ := Aside0.mk (blk_below (rb (blk_far (rb (blk_far (rb (blk_far (rb (blk_far (rb BK401.out) NB401_413.out _)) NB401_413.out _)) NB401_413.out _)) NB401_413.out _)) hb); have n1_ := Aside0.mk (blk_below (rb (blk_far (rb (blk_far (rb (blk_far (rb (blk_far (rb BK407.out) NB407_413.out _)) NB407_413.out _)) NB407_413.out _)) NB407_413.out _)) hb); have n2_ := Aside0.mk (blk_below (rb (blk_put (cs := #[.int .i64 t408, .int .i64 t409, .int .i64 t410, .int .i64 0]) (rb (blk_put (cs := #[.int .i64 t408, .int .i64 t409, .int .i64 0, .int .i64 0]) (rb (blk_put (cs := #[.int .i64 t408, .int .i64 0, .int .i64 0, .int .i64 0]) (rb (blk_put (cs := #[.int .i64 0, .int .i64 0, .int .i64 0, .int .i64 0]) (rb BK413.out) 0 _ rfl)) 1 _ rfl)) 2 _ rfl)) 3 _ rfl)) hb); have n3_ := Aside0.mk (below_step bb hb); clear BK401; clear BK407; clear BK413; clear HB; have BK401 := n0_; have BK407 := n1_; have BK413 := n2_; have HB := n3_; clear n0_ n1_ n2_ n3_; (try clear hb); (try clear hb2); (try clear hk); (try clear hi); have hcz27_0 : w26.cell? ⟨gb407, 0, none⟩ = some (.int .i64 t402) := (blk_cell BK407.out 0).trans rfl; have hcz27_1 : w26.cell? ⟨gb407, 1, none⟩ = some (.int .i64 t403) := (blk_cell BK407.out 1).trans rfl; have hcz27_2 : w26.cell? ⟨gb407, 2, none⟩ = some (.int .i64 t404) := (blk_cell BK407.out 2).trans rfl; have hcz27_3 : w26.cell? ⟨gb407, 3, none⟩ = some (.int .i64 t405) := (blk_cell BK407.out 3).trans rfl; have hfz27_0 := blk_frozen BK407.out 0; have hfz27_1 := blk_frozen BK407.out 1; have hfz27_2 := blk_frozen BK407.out 2; have hfz27_3 := blk_frozen BK407.out 3; have hcz28_0 : w26.cell? ⟨gb413, 0, none⟩ = some (.int .i64 t408) := (blk_cell BK413.out 0).trans rfl; have hcz28_1 : w26.cell? ⟨gb413, 1, none⟩ = some (.int .i64 t409) := (blk_cell BK413.out 1).trans rfl; have hcz28_2 : w26.cell? ⟨gb413, 2, none⟩ = some (.int .i64 t410) := (blk_cell BK413.out 2).trans rfl; have hcz28_3 : w26.cell? ⟨gb413, 3, none⟩ = some (.int .i64 t411) := (blk_cell BK413.out 3).trans rfl; have hfz28_0 := blk_frozen BK413.out 0; have hfz28_1 := blk_frozen BK413.out 1; have hfz28_2 := blk_frozen BK413.out 2; have hfz28_3 := blk_frozen BK413.out 3))
       go_ret
       exact ⟨by first | rfl | (simp [errW_none, errW_some] <;> rfl) | (simp only [← hji3, ← hji6]; first | rfl | (simp [errW_none, errW_some] <;> rfl)) | (simp [*, errW_none, errW_some] <;> rfl), bb⟩
      ·rw [if_neg c13] at H
       have c13b0 : (t402 == t408 && (t403 == t409 && (t404 == t410 && (t405 == t411)))) = false := by simpa using c13
       (try (have c13b1 : decide (t402 = t408 && (t403 == t409 && (t404 == t410 && (t405 == t411)))) = false := by simpa using c13))
       (try (have c13b2 : (t402 == t408 && (t403 == t409 && (t404 == t410 && (t405 == t411)))) = false := by simpa using c13))
       (try (have c13b3 : ¬ (t402 = t408 && (t403 == t409 && (t404 == t410 && (t405 == t411)))) := by simpa using c13))
       clear c13
       exact absurd ((Option.some.inj H).trans hT_.out) (by decide)
     ·replace c12 := Bool.eq_false_iff.mpr c12
      subst c12
      have H1 : (some false) = some r := by rw [if_neg (show ¬ (false = true) by decide)] at H; exact H
      clear H
      have H := H1
      clear H1
      exact absurd ((Option.some.inj H).trans hT_.out) (by decide)
    ·rw [if_neg c8] at H
     exact absurd H (by simp)
   ·rw [if_neg c7] at H
    exact absurd H (by simp)
  ·rw [if_neg c5] at H
   exact absurd H (by simp)
 ·rw [if_neg c4] at H
  exact absurd H (by simp)

end Go.Proofs.YtpbnfnaebdmagaaDoor.PT
namespace Go.Proofs.YtpbnfnaebdmagaaDoor.Tk
set_option linter.unusedVariables false
set_option linter.unusedSimpArgs false
open Go Go.RowKit Go.Proofs.YtpbnfnaebdmagaaDoor.Plain Go.Proofs.YtpbnfnaebdmagaaDoor.Words Go.Proofs.YtpbnfnaebdmagaaDoor.Vr Go.Proofs.YtpbnfnaebdmagaaDoor.Vs Go.Proofs.YtpbnfnaebdmagaaDoor.Rr Go.Proofs.YtpbnfnaebdmagaaDoor.Pv Go.Proofs.YtpbnfnaebdmagaaDoor.PT Go.Proofs.YtpbnfnaebdmagaaDoorW.PrintWords Go.Proofs.YtpbnfnaebdmagaaDoorW.PrintLast Go.Proofs.YtpbnfnaebdmagaaDoorW.PrintMore
theorem rverify_some {key s : ByteArray} (now epoch : Int) (hk : key.size ≤ 281474976710000) (hs : s.size ≤ 140737488351232) : ∃ K, ∀ k, K ≤ k → precinctref09_Verify.f k key s now epoch = some (verR key s now epoch) := by
  obtain ⟨K, hK⟩ := rparse_some s hs
  refine ⟨K, fun k hk' => ?_⟩
  have hw : wrap64 ((s.size : Int) - 32) = (s.size : Int) - 32 := w64 (by omega) (by omega)
  have hl := @parse_long s
  have hc := cut_size s
  have hn : ((s.size : Int) - 32).toNat = s.size - 32 := by omega
  unfold precinctref09_Verify.f
  rw [hK k hk', Option.bind_some, hw]
  unfold verR
  generalize parseR s = p at hl ⊢
  by_cases h0 : p.2.2.2.2.2 = 0
  · have hl := hl h0
    rw [if_pos h0, if_pos h0, if_pos (by omega), if_pos (by omega), hn]
    unfold precinctref05_Tag.f
    rw [if_pos ⟨hk, by omega⟩, Option.bind_some]
    by_cases h1 : p.2.2.2.2.1.toList = (Sha.tagK key (s.extract 0 (s.size - 32))).toList
    · rw [if_pos h1.symm, if_pos h1]
      split
      · rfl
      · split <;> rfl
    · rw [if_neg (fun e => h1 e.symm), if_neg h1]
  · rw [if_neg h0, if_neg h0]
end Go.Proofs.YtpbnfnaebdmagaaDoor.Tk
namespace Go.Proofs.YtpbnfnaebdmagaaDoor.Tk
set_option linter.unusedVariables false
set_option linter.unusedSimpArgs false
open Go Go.RowKit Go.Proofs.YtpbnfnaebdmagaaDoor.Plain Go.Proofs.YtpbnfnaebdmagaaDoor.Words Go.Proofs.YtpbnfnaebdmagaaDoor.Vr Go.Proofs.YtpbnfnaebdmagaaDoor.Vs Go.Proofs.YtpbnfnaebdmagaaDoor.Rr Go.Proofs.YtpbnfnaebdmagaaDoor.Pv Go.Proofs.YtpbnfnaebdmagaaDoor.PT Go.Proofs.YtpbnfnaebdmagaaDoorW.PrintWords Go.Proofs.YtpbnfnaebdmagaaDoorW.PrintLast Go.Proofs.YtpbnfnaebdmagaaDoorW.PrintMore
theorem verifies_pure (s key : ByteArray) (now epoch : Int) (h0 : s.size ≤ 140737488351232) (h1 : key.size ≤ 140737488351232) : ∃ k, precinctlaw09_TokenVerifies.f k s key now epoch = some true := by
  have m0 : 0 ≤ mn (key.size : Int) 500 ∧ mn (key.size : Int) 500 ≤ 500 ∧ mn (key.size : Int) 500 ≤ key.size := by unfold mn; split <;> omega
  have m1 : 0 ≤ mn (s.size : Int) 2000 ∧ mn (s.size : Int) 2000 ≤ 2000 ∧ mn (s.size : Int) 2000 ≤ s.size := by unfold mn; split <;> omega
  have z0 : (key.extract 0 ((mn (key.size : Int) 500) : Int).toNat).size ≤ 281474976710000 := by rw [ByteArray.size_extract]; omega
  have z1 : (s.extract 0 ((mn (s.size : Int) 2000) : Int).toNat).size ≤ 140737488351232 := by rw [ByteArray.size_extract]; omega
  obtain ⟨K1, e1⟩ := wakes_some
  obtain ⟨K2, e2⟩ := verify_some now epoch z0 z1
  obtain ⟨K3, e3⟩ := rverify_some now epoch z0 z1
  refine ⟨max K1 (max K2 K3), ?_⟩
  unfold precinctlaw09_TokenVerifies.f
  rw [if_pos m0.1, if_pos m0.2.2, if_pos m1.1, if_pos m1.2.2, e2 _ (by omega), Option.bind_some, e3 _ (by omega), Option.bind_some, e1 _ (by omega), Option.bind_some, if_pos rfl]
  simp
theorem verifies_walk (s key : ByteArray) (now epoch : Int) (w : World) (HT : Sha.Tab w) (h0 : s.size ≤ 140737488351232) (h1 : key.size ≤ 140737488351232) (h2 : (Lit.int .i64 now).wf = true) (h3 : (Lit.int .i64 epoch).wf = true) :
    Calls Tryd.prog 5 #[.string s, .agg #[.string key, .int .i64 now, .int .i64 epoch]] w fun e w' => e = .returned (.bool true) ∧ Below w.heap.size w w' := by
  obtain ⟨k, h⟩ := verifies_pure s key now epoch h0 h1
  have HTab := Aside0.mk HT
  exact precinctlaw09_TokenVerifies.calls k s key now epoch true w ⟨rfl⟩ h HTab
end Go.Proofs.YtpbnfnaebdmagaaDoor.Tk
