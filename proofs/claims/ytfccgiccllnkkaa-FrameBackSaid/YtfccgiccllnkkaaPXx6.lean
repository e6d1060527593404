-- printed by a program of this session out of the translation; see NOTES.md
import Derived.Test.YtfccgiccllnkkaaPXx0
import Derived.Test.YtfccgiccllnkkaaPXx2
import Derived.Test.YtfccgiccllnkkaaPXx3
import Derived.Test.YtfccgiccllnkkaaPXx4
import Derived.Test.YtfccgiccllnkkaaPXx5
namespace Go.Proofs.Ytfccgiccllnkkaa.PX
open Go.RowKit Go.Proofs.YtfccgiccllnkkaaW.PrintWords Go.Proofs.YtfccgiccllnkkaaW.PrintLast Go.Proofs.YtfccgiccllnkkaaW.PrintMore
attribute [local go_sem] max2_int min2_int max_two min_two max_three min_three max_four min_four   -- for this text's walks alone
set_option linter.unusedVariables false
set_option linter.unusedSimpArgs false

/-! ### precinctref03_Put: function 39 -/
def precinctref03_Put.f (k : Nat) (a0 : ByteArray) : Option (ByteArray × Int) := if (a0.size : Int) = 0 then (some ((⟨#[]⟩ : ByteArray), 2)) else (if (a0.size : Int) > 4096 then (some ((⟨#[]⟩ : ByteArray), 5)) else ((precinctref01_Put.f k 2 (IntKind.u64.wrap ((a0.size : Int)))).bind fun t194 => (if t194.size + a0.size ≤ 9223372036854775807 then ((precinctref03_Sum.f k (t194 ++ a0)).bind fun t195 => ((precinctref01_Put.f k 4 (IntKind.u64.wrap (t195))).bind fun t196 => (if t194.size + t196.size ≤ 9223372036854775807 then (if (t194 ++ t196).size + a0.size ≤ 9223372036854775807 then (some ((t194 ++ t196) ++ a0, 0)) else (none)) else (none)))) else (none))))
theorem precinctref03_Put.mono : ∀ a0 k, LeO (precinctref03_Put.f k a0) (precinctref03_Put.f (k + 1) a0) := by
  intro a0 k
  unfold precinctref03_Put.f
  repeat' first
      | (with_reducible exact precinctref01_Put.mono _ _ _)
      | (with_reducible exact precinctref03_Sum.mono _ _)
      | (with_reducible exact LeO.refl _)
      | (with_reducible exact LeO.none _)
      | (with_reducible refine LeO.ite ?_ ?_)
      | (with_reducible refine LeO.bind ?_ (fun _ => ?_))
      | exact precinctref01_Put.mono _ _ _
      | exact precinctref03_Sum.mono _ _
      | exact LeO.none _
      | refine LeO.ite ?_ ?_
      | refine LeO.bind ?_ (fun _ => ?_)
set_option maxHeartbeats 8000000 in
set_option maxRecDepth 100000 in
theorem precinctref03_Put.calls (k : Nat) (a0 : ByteArray) (r1 : ByteArray) (r2 : Int) (w : World) (h : precinctref03_Put.f k a0 = some (r1, r2)) :
    Calls Try.prog 39 #[.string a0] w fun e w' => e = .returned (.tuple #[.string r1, .int .i64 r2]) ∧ Below w.heap.size w w' := by
  have HB := Aside0.mk (Below.refl w.heap.size w)
  have H : (if (a0.size : Int) = 0 then (some ((⟨#[]⟩ : ByteArray), 2)) else (if (a0.size : Int) > 4096 then (some ((⟨#[]⟩ : ByteArray), 5)) else ((precinctref01_Put.f k 2 (IntKind.u64.wrap ((a0.size : Int)))).bind fun t194 => (if t194.size + a0.size ≤ 9223372036854775807 then ((precinctref03_Sum.f k (t194 ++ a0)).bind fun t195 => ((precinctref01_Put.f k 4 (IntKind.u64.wrap (t195))).bind fun t196 => (if t194.size + t196.size ≤ 9223372036854775807 then (if (t194 ++ t196).size + a0.size ≤ 9223372036854775807 then (some ((t194 ++ t196) ++ a0, 0)) else (none)) else (none)))) else (none))))) = some (r1, r2) := h
  clear h
  by_cases c2 : (a0.size : Int) = 0
  · rw [if_pos c2] at H
    have c2b0 : ((a0.size : Int) == 0) = true := beq_iff_eq.mpr c2
    have c2b1 : ((a0.size : Int) != 0) = false := bne_eq_false_iff_eq.mpr c2
    clear c2
    simp only [Option.some.injEq, Prod.mk.injEq] at H
    obtain ⟨rfl, rfl⟩ := H
    go_enter Try.func39, Try.ntmps39
    go_wp2
    go_ret2
    exact ⟨by first | rfl | (simp [errW_none, errW_some] <;> rfl) | (simp [*, errW_none, errW_some] <;> rfl), by repeat (first | (with_reducible first | exact HB.out | apply below_alloc | apply pw_below_drewN | apply below_drew1) | exact HB.out)⟩
  · rw [if_neg c2] at H
    have c2b0 : ((a0.size : Int) == 0) = false := beq_eq_false_iff_ne.mpr c2
    have c2b1 : ((a0.size : Int) != 0) = true := bne_iff_ne.mpr c2
    by_cases c3 : (a0.size : Int) > 4096
    · rw [if_pos c3] at H
      have c3b0 : decide (4096 < (a0.size : Int)) = true := decide_eq_true c3
      have c3b1 : decide (4096 < a0.size) = true := decide_eq_true (by omega)
      clear c3
      simp only [Option.some.injEq, Prod.mk.injEq] at H
      obtain ⟨rfl, rfl⟩ := H
      go_enter Try.func39, Try.ntmps39
      go_wp2
      go_ret2
      exact ⟨by first | rfl | (simp [errW_none, errW_some] <;> rfl) | (simp [*, errW_none, errW_some] <;> rfl), by repeat (first | (with_reducible first | exact HB.out | apply below_alloc | apply pw_below_drewN | apply below_drew1) | exact HB.out)⟩
    · rw [if_neg c3] at H
      have c3b0 : decide (4096 < (a0.size : Int)) = false := decide_eq_false c3
      have c3b1 : decide (4096 < a0.size) = false := decide_eq_false (by omega)
      clear c3
      replace H := Option.bind_eq_some_iff.mp H
      obtain ⟨t194, A40, H⟩ := H
      replace H : (if t194.size + a0.size ≤ 9223372036854775807 then ((precinctref03_Sum.f k (t194 ++ a0)).bind fun t195 => ((precinctref01_Put.f k 4 (IntKind.u64.wrap (t195))).bind fun t196 => (if t194.size + t196.size ≤ 9223372036854775807 then (if (t194 ++ t196).size + a0.size ≤ 9223372036854775807 then (some ((t194 ++ t196) ++ a0, 0)) else (none)) else (none)))) else (none)) = some (r1, r2) := H
      have A4 := Aside0.mk A40
      clear A40
      have hw_ : IntKind.u64.wrap ((a0.size : Int)) = (a0.size : Int) := by have hg_ := of_decide_eq_false c3b0; simp [IntKind.wrap, IntKind.bits, IntKind.signed]; omega
      rw [hw_] at A4
      clear hw_
      by_cases c5 : t194.size + a0.size ≤ 9223372036854775807
      · rw [if_pos c5] at H
        have c5b0 := eq_true c5
        have c5b1 : decide (t194.size + a0.size ≤ 9223372036854775807) = true := decide_eq_true c5
        try have c5b2 : (9223372036854775807 < t194.size + a0.size) = False := eq_false (Nat.not_lt.2 c5)
        replace H := Option.bind_eq_some_iff.mp H
        obtain ⟨t195, A60, H⟩ := H
        replace H : ((precinctref01_Put.f k 4 (IntKind.u64.wrap (t195))).bind fun t196 => (if t194.size + t196.size ≤ 9223372036854775807 then (if (t194 ++ t196).size + a0.size ≤ 9223372036854775807 then (some ((t194 ++ t196) ++ a0, 0)) else (none)) else (none))) = some (r1, r2) := H
        have A6 := Aside0.mk A60
        clear A60
        replace H := Option.bind_eq_some_iff.mp H
        obtain ⟨t196, A70, H⟩ := H
        replace H : (if t194.size + t196.size ≤ 9223372036854775807 then (if (t194 ++ t196).size + a0.size ≤ 9223372036854775807 then (some ((t194 ++ t196) ++ a0, 0)) else (none)) else (none)) = some (r1, r2) := H
        have A7 := Aside0.mk A70
        clear A70
        by_cases c8 : t194.size + t196.size ≤ 9223372036854775807
        · rw [if_pos c8] at H
          have c8b0 := eq_true c8
          have c8b1 : decide (t194.size + t196.size ≤ 9223372036854775807) = true := decide_eq_true c8
          try have c8b2 : (9223372036854775807 < t194.size + t196.size) = False := eq_false (Nat.not_lt.2 c8)
          by_cases c9 : (t194 ++ t196).size + a0.size ≤ 9223372036854775807
          · rw [if_pos c9] at H
            have c9b0 := eq_true c9
            have c9b1 : decide ((t194 ++ t196).size + a0.size ≤ 9223372036854775807) = true := decide_eq_true c9
            try have c9b2 : (9223372036854775807 < (t194 ++ t196).size + a0.size) = False := eq_false (Nat.not_lt.2 c9)
            simp only [Option.some.injEq, Prod.mk.injEq] at H
            obtain ⟨rfl, rfl⟩ := H
            go_enter Try.func39, Try.ntmps39
            go_wp2_with (first | ((with_reducible refine gate_callee (f := 26) rfl ?_); refine goesL_ (some 16) rfl rfl Try.func26 (by kernel_rfl) rfl #[.int .i64 2, .int .u64 ((a0.size : Int))] rfl (by (try simp only [List.map_toArray, List.map_cons, List.map_nil]); first | done | rfl | (simp only [List.length_drop, List.length_take]; rfl)) ?_; (with_reducible refine (precinctref01_Put.calls k 2 ((a0.size : Int)) t194 _ A4.out).mono ?_); rintro e w10 ⟨rfl, hb⟩; refine ⟨_, rfl, ?_⟩; have n0_ := Aside0.mk (below_step (by repeat (first | (with_reducible first | exact HB.out | apply below_alloc | apply pw_below_drewN | apply below_drew1) | exact HB.out)) hb); clear HB; have HB := n0_; clear n0_; (try clear hb); (try clear hb2); (try clear hk); (try clear hi)) | ((with_reducible refine gate_callee (f := 28) rfl ?_); refine goesL_ (some 20) rfl rfl Try.func28 (by kernel_rfl) rfl #[.string (t194 ++ a0)] rfl (by (try simp only [List.map_toArray, List.map_cons, List.map_nil]); first | done | rfl | (simp only [List.length_drop, List.length_take]; rfl)) ?_; (with_reducible refine (precinctref03_Sum.calls k (t194 ++ a0) t195 _ A6.out).mono ?_); rintro e w' ⟨rfl, ⟨nd, rfl⟩⟩; refine ⟨_, rfl, ?_⟩) | ((with_reducible refine gate_callee (f := 26) rfl ?_); refine goesL_ (some 23) rfl rfl Try.func26 (by kernel_rfl) rfl #[.int .i64 4, .int .u64 (IntKind.u64.wrap (t195))] rfl (by (try simp only [List.map_toArray, List.map_cons, List.map_nil]); first | done | rfl | (simp only [List.length_drop, List.length_take]; rfl)) ?_; (with_reducible refine (precinctref01_Put.calls k 4 (IntKind.u64.wrap (t195)) t196 _ A7.out).mono ?_); rintro e w11 ⟨rfl, hb⟩; refine ⟨_, rfl, ?_⟩; have n0_ := Aside0.mk (below_step (by repeat (first | (with_reducible first | exact HB.out | apply below_alloc | apply pw_below_drewN | apply below_drew1) | exact HB.out)) hb); clear HB; have HB := n0_; clear n0_; (try clear hb); (try clear hb2); (try clear hk); (try clear hi)))
            go_ret2
            exact ⟨by first | rfl | (simp [errW_none, errW_some] <;> rfl) | (simp [*, errW_none, errW_some] <;> rfl), by repeat (first | (with_reducible first | exact HB.out | apply below_alloc | apply pw_below_drewN | apply below_drew1) | exact HB.out)⟩
          · rw [if_neg c9] at H
            exact absurd H (by simp)
        · rw [if_neg c8] at H
          exact absurd H (by simp)
      · rw [if_neg c5] at H
        exact absurd H (by simp)

/-! ### frame_Get: function 41 -/
def frame_Get.f (k : Nat) (a0 : ByteArray) (a1 : Int) : Option (ByteArray × Int × Int) := (words_Get.f k a0 a1 2).bind fun bt197 => (if bt197.2.2 = 0 then (if bt197.1 = 0 then (some ((⟨#[]⟩ : ByteArray), 0, 13)) else (if bt197.1 > 4096 then (some ((⟨#[]⟩ : ByteArray), 0, 5)) else (if (wrap64 ((a0.size : Int) - a1)) < (wrap64 (6 + (wrap64 (bt197.1)))) then (some ((⟨#[]⟩ : ByteArray), 0, 3)) else ((words_Get.f k a0 (wrap64 (a1 + 2)) 4).bind fun bt200 => (if 0 ≤ bt200.2.1 then (if bt200.2.1 ≤ (wrap64 (bt200.2.1 + (wrap64 (bt197.1)))) then (if (wrap64 (bt200.2.1 + (wrap64 (bt197.1)))) ≤ (a0.size : Int) then (if 0 ≤ a1 then (if a1 ≤ (wrap64 (a1 + 2)) then (if (wrap64 (a1 + 2)) ≤ (a0.size : Int) then (if (a0.extract (a1 : Int).toNat ((wrap64 (a1 + 2)) : Int).toNat).size + (a0.extract (bt200.2.1 : Int).toNat ((wrap64 (bt200.2.1 + (wrap64 (bt197.1)))) : Int).toNat).size ≤ 9223372036854775807 then ((frame_Sum.f k ((a0.extract (a1 : Int).toNat ((wrap64 (a1 + 2)) : Int).toNat) ++ (a0.extract (bt200.2.1 : Int).toNat ((wrap64 (bt200.2.1 + (wrap64 (bt197.1)))) : Int).toNat))).bind fun t203 => (if ((bt200.1) % 4294967296) = t203 then (some (a0.extract (bt200.2.1 : Int).toNat ((wrap64 (bt200.2.1 + (wrap64 (bt197.1)))) : Int).toNat, wrap64 (bt200.2.1 + (wrap64 (bt197.1))), 0)) else (some ((⟨#[]⟩ : ByteArray), 0, 6)))) else (none)) else (none)) else (none)) else (none)) else (none)) else (none)) else (none)))))) else (some ((⟨#[]⟩ : ByteArray), 0, bt197.2.2)))
theorem frame_Get.mono : ∀ a0 a1 k, LeO (frame_Get.f k a0 a1) (frame_Get.f (k + 1) a0 a1) := by
  intro a0 a1 k
  unfold frame_Get.f
  repeat' first
      | (with_reducible exact frame_Sum.mono _ _)
      | (with_reducible exact words_Get.mono _ _ _ _)
      | (with_reducible exact LeO.refl _)
      | (with_reducible exact LeO.none _)
      | (with_reducible refine LeO.ite ?_ ?_)
      | (with_reducible refine LeO.bind ?_ (fun _ => ?_))
      | exact frame_Sum.mono _ _
      | exact words_Get.mono _ _ _ _
      | exact LeO.none _
      | refine LeO.ite ?_ ?_
      | refine LeO.bind ?_ (fun _ => ?_)
set_option maxHeartbeats 8000000 in
set_option maxRecDepth 100000 in
theorem frame_Get.calls (k : Nat) (a0 : ByteArray) (a1 : Int) (r1 : ByteArray) (r2 : Int) (r3 : Int) (w : World) (h : frame_Get.f k a0 a1 = some (r1, r2, r3)) :
    Calls Try.prog 41 #[.string a0, .int .i64 a1] w fun e w' => e = .returned (.tuple #[.string r1, .int .i64 r2, .int .i64 r3]) ∧ Drawn0 w w' := by
  have H : ((words_Get.f k a0 a1 2).bind fun bt197 => (if bt197.2.2 = 0 then (if bt197.1 = 0 then (some ((⟨#[]⟩ : ByteArray), 0, 13)) else (if bt197.1 > 4096 then (some ((⟨#[]⟩ : ByteArray), 0, 5)) else (if (wrap64 ((a0.size : Int) - a1)) < (wrap64 (6 + (wrap64 (bt197.1)))) then (some ((⟨#[]⟩ : ByteArray), 0, 3)) else ((words_Get.f k a0 (wrap64 (a1 + 2)) 4).bind fun bt200 => (if 0 ≤ bt200.2.1 then (if bt200.2.1 ≤ (wrap64 (bt200.2.1 + (wrap64 (bt197.1)))) then (if (wrap64 (bt200.2.1 + (wrap64 (bt197.1)))) ≤ (a0.size : Int) then (if 0 ≤ a1 then (if a1 ≤ (wrap64 (a1 + 2)) then (if (wrap64 (a1 + 2)) ≤ (a0.size : Int) then (if (a0.extract (a1 : Int).toNat ((wrap64 (a1 + 2)) : Int).toNat).size + (a0.extract (bt200.2.1 : Int).toNat ((wrap64 (bt200.2.1 + (wrap64 (bt197.1)))) : Int).toNat).size ≤ 9223372036854775807 then ((frame_Sum.f k ((a0.extract (a1 : Int).toNat ((wrap64 (a1 + 2)) : Int).toNat) ++ (a0.extract (bt200.2.1 : Int).toNat ((wrap64 (bt200.2.1 + (wrap64 (bt197.1)))) : Int).toNat))).bind fun t203 => (if ((bt200.1) % 4294967296) = t203 then (some (a0.extract (bt200.2.1 : Int).toNat ((wrap64 (bt200.2.1 + (wrap64 (bt197.1)))) : Int).toNat, wrap64 (bt200.2.1 + (wrap64 (bt197.1))), 0)) else (some ((⟨#[]⟩ : ByteArray), 0, 6)))) else (none)) else (none)) else (none)) else (none)) else (none)) else (none)) else (none)))))) else (some ((⟨#[]⟩ : ByteArray), 0, bt197.2.2)))) = some (r1, r2, r3) := h
  clear h
  replace H := Option.bind_eq_some_iff.mp H
  obtain ⟨⟨t197, t198, t199⟩, A30, H⟩ := H
  replace H : (if t199 = 0 then (if t197 = 0 then (some ((⟨#[]⟩ : ByteArray), 0, 13)) else (if t197 > 4096 then (some ((⟨#[]⟩ : ByteArray), 0, 5)) else (if (wrap64 ((a0.size : Int) - a1)) < (wrap64 (6 + (wrap64 (t197)))) then (some ((⟨#[]⟩ : ByteArray), 0, 3)) else ((words_Get.f k a0 (wrap64 (a1 + 2)) 4).bind fun bt200 => (if 0 ≤ bt200.2.1 then (if bt200.2.1 ≤ (wrap64 (bt200.2.1 + (wrap64 (t197)))) then (if (wrap64 (bt200.2.1 + (wrap64 (t197)))) ≤ (a0.size : Int) then (if 0 ≤ a1 then (if a1 ≤ (wrap64 (a1 + 2)) then (if (wrap64 (a1 + 2)) ≤ (a0.size : Int) then (if (a0.extract (a1 : Int).toNat ((wrap64 (a1 + 2)) : Int).toNat).size + (a0.extract (bt200.2.1 : Int).toNat ((wrap64 (bt200.2.1 + (wrap64 (t197)))) : Int).toNat).size ≤ 9223372036854775807 then ((frame_Sum.f k ((a0.extract (a1 : Int).toNat ((wrap64 (a1 + 2)) : Int).toNat) ++ (a0.extract (bt200.2.1 : Int).toNat ((wrap64 (bt200.2.1 + (wrap64 (t197)))) : Int).toNat))).bind fun t203 => (if ((bt200.1) % 4294967296) = t203 then (some (a0.extract (bt200.2.1 : Int).toNat ((wrap64 (bt200.2.1 + (wrap64 (t197)))) : Int).toNat, wrap64 (bt200.2.1 + (wrap64 (t197))), 0)) else (some ((⟨#[]⟩ : ByteArray), 0, 6)))) else (none)) else (none)) else (none)) else (none)) else (none)) else (none)) else (none)))))) else (some ((⟨#[]⟩ : ByteArray), 0, t199))) = some (r1, r2, r3) := H
  have A3 := Aside0.mk A30
  clear A30
  by_cases c4 : t199 = 0
  · rw [if_pos c4] at H
    have c4b0 : (t199 == 0) = true := beq_iff_eq.mpr c4
    have c4b1 : (t199 != 0) = false := bne_eq_false_iff_eq.mpr c4
    clear c4
    by_cases c5 : t197 = 0
    · rw [if_pos c5] at H
      have c5b0 : (t197 == 0) = true := beq_iff_eq.mpr c5
      have c5b1 : (t197 != 0) = false := bne_eq_false_iff_eq.mpr c5
      clear c5
      simp only [Option.some.injEq, Prod.mk.injEq] at H
      obtain ⟨rfl, rfl, rfl⟩ := H
      go_enter Try.func41, Try.ntmps41
      go_wp2_with (first | ((with_reducible refine gate_callee (f := 31) rfl ?_); refine goesL_ (some 17) rfl rfl Try.func31 (by kernel_rfl) rfl #[.string a0, .int .i64 a1, .int .i64 2] rfl (by (try simp only [List.map_toArray, List.map_cons, List.map_nil]); first | done | rfl | (simp only [List.length_drop, List.length_take]; rfl)) ?_; (with_reducible refine (words_Get.calls k a0 a1 2 t197 t198 t199 _ A3.out).mono ?_); rintro e w' ⟨rfl, ⟨nd, rfl⟩⟩; refine ⟨_, rfl, ?_⟩))
      go_ret3
      exact ⟨by first | rfl | (simp; done) | (simp [*]; done), by repeat (first | exact Drawn0.refl _ | apply Drawn0.step)⟩
    · rw [if_neg c5] at H
      have c5b0 : (t197 == 0) = false := beq_eq_false_iff_ne.mpr c5
      have c5b1 : (t197 != 0) = true := bne_iff_ne.mpr c5
      by_cases c6 : t197 > 4096
      · rw [if_pos c6] at H
        have c6b0 : decide (4096 < t197) = true := decide_eq_true c6
        clear c6
        simp only [Option.some.injEq, Prod.mk.injEq] at H
        obtain ⟨rfl, rfl, rfl⟩ := H
        go_enter Try.func41, Try.ntmps41
        go_wp2_with (first | ((with_reducible refine gate_callee (f := 31) rfl ?_); refine goesL_ (some 17) rfl rfl Try.func31 (by kernel_rfl) rfl #[.string a0, .int .i64 a1, .int .i64 2] rfl (by (try simp only [List.map_toArray, List.map_cons, List.map_nil]); first | done | rfl | (simp only [List.length_drop, List.length_take]; rfl)) ?_; (with_reducible refine (words_Get.calls k a0 a1 2 t197 t198 t199 _ A3.out).mono ?_); rintro e w' ⟨rfl, ⟨nd, rfl⟩⟩; refine ⟨_, rfl, ?_⟩))
        go_ret3
        exact ⟨by first | rfl | (simp; done) | (simp [*]; done), by repeat (first | exact Drawn0.refl _ | apply Drawn0.step)⟩
      · rw [if_neg c6] at H
        have c6b0 : decide (4096 < t197) = false := decide_eq_false c6
        clear c6
        by_cases c7 : (wrap64 ((a0.size : Int) - a1)) < (wrap64 (6 + (wrap64 (t197))))
        · rw [if_pos c7] at H
          have c7b0 : decide ((wrap64 ((a0.size : Int) - a1)) < (wrap64 (6 + (wrap64 (t197))))) = true := decide_eq_true c7
          clear c7
          simp only [Option.some.injEq, Prod.mk.injEq] at H
          obtain ⟨rfl, rfl, rfl⟩ := H
          go_enter Try.func41, Try.ntmps41
          go_wp2_with (first | ((with_reducible refine gate_callee (f := 31) rfl ?_); refine goesL_ (some 17) rfl rfl Try.func31 (by kernel_rfl) rfl #[.string a0, .int .i64 a1, .int .i64 2] rfl (by (try simp only [List.map_toArray, List.map_cons, List.map_nil]); first | done | rfl | (simp only [List.length_drop, List.length_take]; rfl)) ?_; (with_reducible refine (words_Get.calls k a0 a1 2 t197 t198 t199 _ A3.out).mono ?_); rintro e w' ⟨rfl, ⟨nd, rfl⟩⟩; refine ⟨_, rfl, ?_⟩))
          go_ret3
          exact ⟨by first | rfl | (simp; done) | (simp [*]; done), by repeat (first | exact Drawn0.refl _ | apply Drawn0.step)⟩
        · rw [if_neg c7] at H
          have c7b0 : decide ((wrap64 ((a0.size : Int) - a1)) < (wrap64 (6 + (wrap64 (t197))))) = false := decide_eq_false c7
          clear c7
          replace H := Option.bind_eq_some_iff.mp H
          obtain ⟨⟨t200, t201, t202⟩, A80, H⟩ := H
          replace H : (if 0 ≤ t201 then (if t201 ≤ (wrap64 (t201 + (wrap64 (t197)))) then (if (wrap64 (t201 + (wrap64 (t197)))) ≤ (a0.size : Int) then (if 0 ≤ a1 then (if a1 ≤ (wrap64 (a1 + 2)) then (if (wrap64 (a1 + 2)) ≤ (a0.size : Int) then (if (a0.extract (a1 : Int).toNat ((wrap64 (a1 + 2)) : Int).toNat).size + (a0.extract (t201 : Int).toNat ((wrap64 (t201 + (wrap64 (t197)))) : Int).toNat).size ≤ 9223372036854775807 then ((frame_Sum.f k ((a0.extract (a1 : Int).toNat ((wrap64 (a1 + 2)) : Int).toNat) ++ (a0.extract (t201 : Int).toNat ((wrap64 (t201 + (wrap64 (t197)))) : Int).toNat))).bind fun t203 => (if ((t200) % 4294967296) = t203 then (some (a0.extract (t201 : Int).toNat ((wrap64 (t201 + (wrap64 (t197)))) : Int).toNat, wrap64 (t201 + (wrap64 (t197))), 0)) else (some ((⟨#[]⟩ : ByteArray), 0, 6)))) else (none)) else (none)) else (none)) else (none)) else (none)) else (none)) else (none)) = some (r1, r2, r3) := H
          have A8 := Aside0.mk A80
          clear A80
          by_cases c9 : 0 ≤ t201
          · rw [if_pos c9] at H
            have c9b0 := eq_true c9
            have c9b1 : decide (0 ≤ t201) = true := decide_eq_true c9
            clear c9
            by_cases c10 : t201 ≤ (wrap64 (t201 + (wrap64 (t197))))
            · rw [if_pos c10] at H
              have c10b0 := eq_true c10
              have c10b1 : decide (t201 ≤ (wrap64 (t201 + (wrap64 (t197))))) = true := decide_eq_true c10
              by_cases c11 : (wrap64 (t201 + (wrap64 (t197)))) ≤ (a0.size : Int)
              · rw [if_pos c11] at H
                have c11b0 := eq_true c11
                have c11b1 : decide ((wrap64 (t201 + (wrap64 (t197)))) ≤ (a0.size : Int)) = true := decide_eq_true c11
                by_cases c12 : 0 ≤ a1
                · rw [if_pos c12] at H
                  have c12b0 := eq_true c12
                  have c12b1 : decide (0 ≤ a1) = true := decide_eq_true c12
                  clear c12
                  by_cases c13 : a1 ≤ (wrap64 (a1 + 2))
                  · rw [if_pos c13] at H
                    have c13b0 := eq_true c13
                    have c13b1 : decide (a1 ≤ (wrap64 (a1 + 2))) = true := decide_eq_true c13
                    by_cases c14 : (wrap64 (a1 + 2)) ≤ (a0.size : Int)
                    · rw [if_pos c14] at H
                      have c14b0 := eq_true c14
                      have c14b1 : decide ((wrap64 (a1 + 2)) ≤ (a0.size : Int)) = true := decide_eq_true c14
                      by_cases c15 : (a0.extract (a1 : Int).toNat ((wrap64 (a1 + 2)) : Int).toNat).size + (a0.extract (t201 : Int).toNat ((wrap64 (t201 + (wrap64 (t197)))) : Int).toNat).size ≤ 9223372036854775807
                      · rw [if_pos c15] at H
                        have c15b0 := eq_true c15
                        have c15b1 : decide ((a0.extract (a1 : Int).toNat ((wrap64 (a1 + 2)) : Int).toNat).size + (a0.extract (t201 : Int).toNat ((wrap64 (t201 + (wrap64 (t197)))) : Int).toNat).size ≤ 9223372036854775807) = true := decide_eq_true c15
                        try have c15b2 : (9223372036854775807 < (a0.extract (a1 : Int).toNat ((wrap64 (a1 + 2)) : Int).toNat).size + (a0.extract (t201 : Int).toNat ((wrap64 (t201 + (wrap64 (t197)))) : Int).toNat).size) = False := eq_false (Nat.not_lt.2 c15)
                        replace H := Option.bind_eq_some_iff.mp H
                        obtain ⟨t203, A160, H⟩ := H
                        replace H : (if ((t200) % 4294967296) = t203 then (some (a0.extract (t201 : Int).toNat ((wrap64 (t201 + (wrap64 (t197)))) : Int).toNat, wrap64 (t201 + (wrap64 (t197))), 0)) else (some ((⟨#[]⟩ : ByteArray), 0, 6))) = some (r1, r2, r3) := H
                        have A16 := Aside0.mk A160
                        clear A160
                        by_cases c17 : ((t200) % 4294967296) = t203
                        · rw [if_pos c17] at H
                          have c17b0 : (((t200) % 4294967296) == t203) = true := beq_iff_eq.mpr c17
                          have c17b1 : (((t200) % 4294967296) != t203) = false := bne_eq_false_iff_eq.mpr c17
                          clear c17
                          simp only [Option.some.injEq, Prod.mk.injEq] at H
                          obtain ⟨rfl, rfl, rfl⟩ := H
                          go_enter Try.func41, Try.ntmps41
                          go_wp2_with (first | ((with_reducible refine gate_callee (f := 31) rfl ?_); refine goesL_ (some 17) rfl rfl Try.func31 (by kernel_rfl) rfl #[.string a0, .int .i64 a1, .int .i64 2] rfl (by (try simp only [List.map_toArray, List.map_cons, List.map_nil]); first | done | rfl | (simp only [List.length_drop, List.length_take]; rfl)) ?_; (with_reducible refine (words_Get.calls k a0 a1 2 t197 t198 t199 _ A3.out).mono ?_); rintro e w' ⟨rfl, ⟨nd, rfl⟩⟩; refine ⟨_, rfl, ?_⟩) | ((with_reducible refine gate_callee (f := 31) rfl ?_); refine goesL_ (some 44) rfl rfl Try.func31 (by kernel_rfl) rfl #[.string a0, .int .i64 (wrap64 (a1 + 2)), .int .i64 4] rfl (by (try simp only [List.map_toArray, List.map_cons, List.map_nil]); first | done | rfl | (simp only [List.length_drop, List.length_take]; rfl)) ?_; (with_reducible refine (words_Get.calls k a0 (wrap64 (a1 + 2)) 4 t200 t201 t202 _ A8.out).mono ?_); rintro e w' ⟨rfl, ⟨nd, rfl⟩⟩; refine ⟨_, rfl, ?_⟩) | ((with_reducible refine gate_callee (f := 27) rfl ?_); refine goesL_ (some 64) rfl rfl Try.func27 (by kernel_rfl) rfl #[.string ((a0.extract (a1 : Int).toNat ((wrap64 (a1 + 2)) : Int).toNat) ++ (a0.extract (t201 : Int).toNat ((wrap64 (t201 + (wrap64 (t197)))) : Int).toNat))] rfl (by (try simp only [List.map_toArray, List.map_cons, List.map_nil]); first | done | rfl | (simp only [List.length_drop, List.length_take]; rfl)) ?_; (with_reducible refine (frame_Sum.calls k ((a0.extract (a1 : Int).toNat ((wrap64 (a1 + 2)) : Int).toNat) ++ (a0.extract (t201 : Int).toNat ((wrap64 (t201 + (wrap64 (t197)))) : Int).toNat)) t203 _ A16.out).mono ?_); rintro e w' ⟨rfl, ⟨nd, rfl⟩⟩; refine ⟨_, rfl, ?_⟩))
                          go_ret3
                          exact ⟨by first | rfl | (simp; done) | (simp [*]; done), by repeat (first | exact Drawn0.refl _ | apply Drawn0.step)⟩
                        · rw [if_neg c17] at H
                          have c17b0 : (((t200) % 4294967296) == t203) = false := beq_eq_false_iff_ne.mpr c17
                          have c17b1 : (((t200) % 4294967296) != t203) = true := bne_iff_ne.mpr c17
                          simp only [Option.some.injEq, Prod.mk.injEq] at H
                          obtain ⟨rfl, rfl, rfl⟩ := H
                          go_enter Try.func41, Try.ntmps41
                          go_wp2_with (first | ((with_reducible refine gate_callee (f := 31) rfl ?_); refine goesL_ (some 17) rfl rfl Try.func31 (by kernel_rfl) rfl #[.string a0, .int .i64 a1, .int .i64 2] rfl (by (try simp only [List.map_toArray, List.map_cons, List.map_nil]); first | done | rfl | (simp only [List.length_drop, List.length_take]; rfl)) ?_; (with_reducible refine (words_Get.calls k a0 a1 2 t197 t198 t199 _ A3.out).mono ?_); rintro e w' ⟨rfl, ⟨nd, rfl⟩⟩; refine ⟨_, rfl, ?_⟩) | ((with_reducible refine gate_callee (f := 31) rfl ?_); refine goesL_ (some 44) rfl rfl Try.func31 (by kernel_rfl) rfl #[.string a0, .int .i64 (wrap64 (a1 + 2)), .int .i64 4] rfl (by (try simp only [List.map_toArray, List.map_cons, List.map_nil]); first | done | rfl | (simp only [List.length_drop, List.length_take]; rfl)) ?_; (with_reducible refine (words_Get.calls k a0 (wrap64 (a1 + 2)) 4 t200 t201 t202 _ A8.out).mono ?_); rintro e w' ⟨rfl, ⟨nd, rfl⟩⟩; refine ⟨_, rfl, ?_⟩) | ((with_reducible refine gate_callee (f := 27) rfl ?_); refine goesL_ (some 64) rfl rfl Try.func27 (by kernel_rfl) rfl #[.string ((a0.extract (a1 : Int).toNat ((wrap64 (a1 + 2)) : Int).toNat) ++ (a0.extract (t201 : Int).toNat ((wrap64 (t201 + (wrap64 (t197)))) : Int).toNat))] rfl (by (try simp only [List.map_toArray, List.map_cons, List.map_nil]); first | done | rfl | (simp only [List.length_drop, List.length_take]; rfl)) ?_; (with_reducible refine (frame_Sum.calls k ((a0.extract (a1 : Int).toNat ((wrap64 (a1 + 2)) : Int).toNat) ++ (a0.extract (t201 : Int).toNat ((wrap64 (t201 + (wrap64 (t197)))) : Int).toNat)) t203 _ A16.out).mono ?_); rintro e w' ⟨rfl, ⟨nd, rfl⟩⟩; refine ⟨_, rfl, ?_⟩))
                          go_ret3
                          exact ⟨by first | rfl | (simp; done) | (simp [*]; done), by repeat (first | exact Drawn0.refl _ | apply Drawn0.step)⟩
                      · rw [if_neg c15] at H
                        exact absurd H (by simp)
                    · rw [if_neg c14] at H
                      exact absurd H (by simp)
                  · rw [if_neg c13] at H
                    exact absurd H (by simp)
                · rw [if_neg c12] at H
                  exact absurd H (by simp)
              · rw [if_neg c11] at H
                exact absurd H (by simp)
            · rw [if_neg c10] at H
              exact absurd H (by simp)
          · rw [if_neg c9] at H
            exact absurd H (by simp)
  · rw [if_neg c4] at H
    have c4b0 : (t199 == 0) = false := beq_eq_false_iff_ne.mpr c4
    have c4b1 : (t199 != 0) = true := bne_iff_ne.mpr c4
    simp only [Option.some.injEq, Prod.mk.injEq] at H
    obtain ⟨rfl, rfl, rfl⟩ := H
    go_enter Try.func41, Try.ntmps41
    go_wp2_with (first | ((with_reducible refine gate_callee (f := 31) rfl ?_); refine goesL_ (some 17) rfl rfl Try.func31 (by kernel_rfl) rfl #[.string a0, .int .i64 a1, .int .i64 2] rfl (by (try simp only [List.map_toArray, List.map_cons, List.map_nil]); first | done | rfl | (simp only [List.length_drop, List.length_take]; rfl)) ?_; (with_reducible refine (words_Get.calls k a0 a1 2 t197 t198 t199 _ A3.out).mono ?_); rintro e w' ⟨rfl, ⟨nd, rfl⟩⟩; refine ⟨_, rfl, ?_⟩))
    go_ret3
    exact ⟨by first | rfl | (simp; done) | (simp [*]; done), by repeat (first | exact Drawn0.refl _ | apply Drawn0.step)⟩

/-! ### precinctlaw03_wakes: function 40 -/
def precinctlaw03_wakes.f (k : Nat)  : Option (Bool) := (frame_Put.f k (⟨#[97]⟩ : ByteArray)).bind fun bt204 => ((frame_Get.f k bt204.1 0).bind fun bt206 => (if bt204.2 = 0 then (if bt206.2.2 = 0 then (if bt206.1.toList = ([97] : List UInt8) then (if bt206.2.1 = 7 then (if (bt204.1.size : Int) = 7 then ((frame_Sum.f k (⟨#[49, 50, 51, 52, 53, 54, 55, 56, 57]⟩ : ByteArray)).bind fun t209 => (some (t209 == 3808858755))) else (some false)) else (some false)) else (some false)) else (some false)) else (some false)))
theorem precinctlaw03_wakes.mono : ∀ k, LeO (precinctlaw03_wakes.f k ) (precinctlaw03_wakes.f (k + 1) ) := by
  intro  k
  unfold precinctlaw03_wakes.f
  repeat' first
      | (with_reducible exact frame_Get.mono _ _ _)
      | (with_reducible exact frame_Put.mono _ _)
      | (with_reducible exact frame_Sum.mono _ _)
      | (with_reducible exact LeO.refl _)
      | (with_reducible exact LeO.none _)
      | (with_reducible refine LeO.ite ?_ ?_)
      | (with_reducible refine LeO.bind ?_ (fun _ => ?_))
      | exact frame_Get.mono _ _ _
      | exact frame_Put.mono _ _
      | exact frame_Sum.mono _ _
      | exact LeO.none _
      | refine LeO.ite ?_ ?_
      | refine LeO.bind ?_ (fun _ => ?_)
set_option maxHeartbeats 8000000 in
set_option maxRecDepth 100000 in
theorem precinctlaw03_wakes.calls (k : Nat)  (r : Bool) (w : World) (h : precinctlaw03_wakes.f k  = some r) :
    Calls Try.prog 40 #[] w fun e w' => e = .returned (.bool r) ∧ Below w.heap.size w w' := by
  have HB := Aside0.mk (Below.refl w.heap.size w)
  have H : ((frame_Put.f k (⟨#[97]⟩ : ByteArray)).bind fun bt204 => ((frame_Get.f k bt204.1 0).bind fun bt206 => (if bt204.2 = 0 then (if bt206.2.2 = 0 then (if bt206.1.toList = ([97] : List UInt8) then (if bt206.2.1 = 7 then (if (bt204.1.size : Int) = 7 then ((frame_Sum.f k (⟨#[49, 50, 51, 52, 53, 54, 55, 56, 57]⟩ : ByteArray)).bind fun t209 => (some (t209 == 3808858755))) else (some false)) else (some false)) else (some false)) else (some false)) else (some false)))) = some r := h
  clear h
  replace H := Option.bind_eq_some_iff.mp H
  obtain ⟨⟨t204, t205⟩, A10, H⟩ := H
  replace H : ((frame_Get.f k t204 0).bind fun bt206 => (if t205 = 0 then (if bt206.2.2 = 0 then (if bt206.1.toList = ([97] : List UInt8) then (if bt206.2.1 = 7 then (if (t204.size : Int) = 7 then ((frame_Sum.f k (⟨#[49, 50, 51, 52, 53, 54, 55, 56, 57]⟩ : ByteArray)).bind fun t209 => (some (t209 == 3808858755))) else (some false)) else (some false)) else (some false)) else (some false)) else (some false))) = some r := H
  have A1 := Aside0.mk A10
  clear A10
  replace H := Option.bind_eq_some_iff.mp H
  obtain ⟨⟨t206, t207, t208⟩, A20, H⟩ := H
  replace H : (if t205 = 0 then (if t208 = 0 then (if t206.toList = ([97] : List UInt8) then (if t207 = 7 then (if (t204.size : Int) = 7 then ((frame_Sum.f k (⟨#[49, 50, 51, 52, 53, 54, 55, 56, 57]⟩ : ByteArray)).bind fun t209 => (some (t209 == 3808858755))) else (some false)) else (some false)) else (some false)) else (some false)) else (some false)) = some r := H
  have A2 := Aside0.mk A20
  clear A20
  by_cases c3 : t205 = 0
  · rw [if_pos c3] at H
    have c3b0 : (t205 == 0) = true := beq_iff_eq.mpr c3
    have c3b1 : (t205 != 0) = false := bne_eq_false_iff_eq.mpr c3
    clear c3
    by_cases c4 : t208 = 0
    · rw [if_pos c4] at H
      have c4b0 : (t208 == 0) = true := beq_iff_eq.mpr c4
      have c4b1 : (t208 != 0) = false := bne_eq_false_iff_eq.mpr c4
      clear c4
      by_cases c5 : t206.toList = ([97] : List UInt8)
      · rw [if_pos c5] at H
        have c5b0 : (t206.toList == ([97] : List UInt8)) = true := beq_iff_eq.mpr c5
        have c5b1 : (t206.toList != ([97] : List UInt8)) = false := bne_eq_false_iff_eq.mpr c5
        clear c5
        by_cases c6 : t207 = 7
        · rw [if_pos c6] at H
          have c6b0 : (t207 == 7) = true := beq_iff_eq.mpr c6
          have c6b1 : (t207 != 7) = false := bne_eq_false_iff_eq.mpr c6
          clear c6
          by_cases c7 : (t204.size : Int) = 7
          · rw [if_pos c7] at H
            have c7b0 : ((t204.size : Int) == 7) = true := beq_iff_eq.mpr c7
            have c7b1 : ((t204.size : Int) != 7) = false := bne_eq_false_iff_eq.mpr c7
            clear c7
            replace H := Option.bind_eq_some_iff.mp H
            obtain ⟨t209, A80, H⟩ := H
            replace H : (some (t209 == 3808858755)) = some r := H
            have A8 := Aside0.mk A80
            clear A80
            obtain rfl := Option.some.inj H
            go_enter Try.func40, Try.ntmps40
            go_wp2_with (first | ((with_reducible refine gate_callee (f := 38) rfl ?_); refine goesL_ (some 7) rfl rfl Try.func38 (by kernel_rfl) rfl #[.string (⟨#[97]⟩ : ByteArray)] rfl (by (try simp only [List.map_toArray, List.map_cons, List.map_nil]); first | done | rfl | (simp only [List.length_drop, List.length_take]; rfl)) ?_; (with_reducible refine (frame_Put.calls k (⟨#[97]⟩ : ByteArray) t204 t205 _ A1.out).mono ?_); rintro e w9 ⟨rfl, hb⟩; refine ⟨_, rfl, ?_⟩; have n0_ := Aside0.mk (below_step (by repeat (first | (with_reducible first | exact HB.out | apply below_alloc | apply pw_below_drewN | apply below_drew1) | exact HB.out)) hb); clear HB; have HB := n0_; clear n0_; (try clear hb); (try clear hb2); (try clear hk); (try clear hi)) | ((with_reducible refine gate_callee (f := 41) rfl ?_); refine goesL_ (some 12) rfl rfl Try.func41 (by kernel_rfl) rfl #[.string t204, .int .i64 0] rfl (by (try simp only [List.map_toArray, List.map_cons, List.map_nil]); first | done | rfl | (simp only [List.length_drop, List.length_take]; rfl)) ?_; (with_reducible refine (frame_Get.calls k t204 0 t206 t207 t208 _ A2.out).mono ?_); rintro e w' ⟨rfl, ⟨nd, rfl⟩⟩; refine ⟨_, rfl, ?_⟩) | (go_at_call 27; (with_reducible refine (frame_Sum.calls k (⟨#[49, 50, 51, 52, 53, 54, 55, 56, 57]⟩ : ByteArray) t209 _ A8.out).mono ?_); rintro e w' ⟨rfl, ⟨nd, rfl⟩⟩))
            go_ret
            exact ⟨by first | rfl | (simp [errW_none, errW_some] <;> rfl) | (simp [*, errW_none, errW_some] <;> rfl), by repeat (first | (with_reducible first | exact HB.out | apply below_alloc | apply pw_below_drewN | apply below_drew1) | exact HB.out)⟩
          · rw [if_neg c7] at H
            have c7b0 : ((t204.size : Int) == 7) = false := beq_eq_false_iff_ne.mpr c7
            have c7b1 : ((t204.size : Int) != 7) = true := bne_iff_ne.mpr c7
            obtain rfl := Option.some.inj H
            go_enter Try.func40, Try.ntmps40
            go_wp2_with (first | ((with_reducible refine gate_callee (f := 38) rfl ?_); refine goesL_ (some 7) rfl rfl Try.func38 (by kernel_rfl) rfl #[.string (⟨#[97]⟩ : ByteArray)] rfl (by (try simp only [List.map_toArray, List.map_cons, List.map_nil]); first | done | rfl | (simp only [List.length_drop, List.length_take]; rfl)) ?_; (with_reducible refine (frame_Put.calls k (⟨#[97]⟩ : ByteArray) t204 t205 _ A1.out).mono ?_); rintro e w10 ⟨rfl, hb⟩; refine ⟨_, rfl, ?_⟩; have n0_ := Aside0.mk (below_step (by repeat (first | (with_reducible first | exact HB.out | apply below_alloc | apply pw_below_drewN | apply below_drew1) | exact HB.out)) hb); clear HB; have HB := n0_; clear n0_; (try clear hb); (try clear hb2); (try clear hk); (try clear hi)) | ((with_reducible refine gate_callee (f := 41) rfl ?_); refine goesL_ (some 12) rfl rfl Try.func41 (by kernel_rfl) rfl #[.string t204, .int .i64 0] rfl (by (try simp only [List.map_toArray, List.map_cons, List.map_nil]); first | done | rfl | (simp only [List.length_drop, List.length_take]; rfl)) ?_; (with_reducible refine (frame_Get.calls k t204 0 t206 t207 t208 _ A2.out).mono ?_); rintro e w' ⟨rfl, ⟨nd, rfl⟩⟩; refine ⟨_, rfl, ?_⟩))
            go_ret
            exact ⟨by first | rfl | (simp [errW_none, errW_some] <;> rfl) | (simp [*, errW_none, errW_some] <;> rfl), by repeat (first | (with_reducible first | exact HB.out | apply below_alloc | apply pw_below_drewN | apply below_drew1) | exact HB.out)⟩
        · rw [if_neg c6] at H
          have c6b0 : (t207 == 7) = false := beq_eq_false_iff_ne.mpr c6
          have c6b1 : (t207 != 7) = true := bne_iff_ne.mpr c6
          obtain rfl := Option.some.inj H
          go_enter Try.func40, Try.ntmps40
          go_wp2_with (first | ((with_reducible refine gate_callee (f := 38) rfl ?_); refine goesL_ (some 7) rfl rfl Try.func38 (by kernel_rfl) rfl #[.string (⟨#[97]⟩ : ByteArray)] rfl (by (try simp only [List.map_toArray, List.map_cons, List.map_nil]); first | done | rfl | (simp only [List.length_drop, List.length_take]; rfl)) ?_; (with_reducible refine (frame_Put.calls k (⟨#[97]⟩ : ByteArray) t204 t205 _ A1.out).mono ?_); rintro e w11 ⟨rfl, hb⟩; refine ⟨_, rfl, ?_⟩; have n0_ := Aside0.mk (below_step (by repeat (first | (with_reducible first | exact HB.out | apply below_alloc | apply pw_below_drewN | apply below_drew1) | exact HB.out)) hb); clear HB; have HB := n0_; clear n0_; (try clear hb); (try clear hb2); (try clear hk); (try clear hi)) | ((with_reducible refine gate_callee (f := 41) rfl ?_); refine goesL_ (some 12) rfl rfl Try.func41 (by kernel_rfl) rfl #[.string t204, .int .i64 0] rfl (by (try simp only [List.map_toArray, List.map_cons, List.map_nil]); first | done | rfl | (simp only [List.length_drop, List.length_take]; rfl)) ?_; (with_reducible refine (frame_Get.calls k t204 0 t206 t207 t208 _ A2.out).mono ?_); rintro e w' ⟨rfl, ⟨nd, rfl⟩⟩; refine ⟨_, rfl, ?_⟩))
          go_ret
          exact ⟨by first | rfl | (simp [errW_none, errW_some] <;> rfl) | (simp [*, errW_none, errW_some] <;> rfl), by repeat (first | (with_reducible first | exact HB.out | apply below_alloc | apply pw_below_drewN | apply below_drew1) | exact HB.out)⟩
      · rw [if_neg c5] at H
        have c5b0 : (t206.toList == ([97] : List UInt8)) = false := beq_eq_false_iff_ne.mpr c5
        have c5b1 : (t206.toList != ([97] : List UInt8)) = true := bne_iff_ne.mpr c5
        obtain rfl := Option.some.inj H
        go_enter Try.func40, Try.ntmps40
        go_wp2_with (first | ((with_reducible refine gate_callee (f := 38) rfl ?_); refine goesL_ (some 7) rfl rfl Try.func38 (by kernel_rfl) rfl #[.string (⟨#[97]⟩ : ByteArray)] rfl (by (try simp only [List.map_toArray, List.map_cons, List.map_nil]); first | done | rfl | (simp only [List.length_drop, List.length_take]; rfl)) ?_; (with_reducible refine (frame_Put.calls k (⟨#[97]⟩ : ByteArray) t204 t205 _ A1.out).mono ?_); rintro e w12 ⟨rfl, hb⟩; refine ⟨_, rfl, ?_⟩; have n0_ := Aside0.mk (below_step (by repeat (first | (with_reducible first | exact HB.out | apply below_alloc | apply pw_below_drewN | apply below_drew1) | exact HB.out)) hb); clear HB; have HB := n0_; clear n0_; (try clear hb); (try clear hb2); (try clear hk); (try clear hi)) | ((with_reducible refine gate_callee (f := 41) rfl ?_); refine goesL_ (some 12) rfl rfl Try.func41 (by kernel_rfl) rfl #[.string t204, .int .i64 0] rfl (by (try simp only [List.map_toArray, List.map_cons, List.map_nil]); first | done | rfl | (simp only [List.length_drop, List.length_take]; rfl)) ?_; (with_reducible refine (frame_Get.calls k t204 0 t206 t207 t208 _ A2.out).mono ?_); rintro e w' ⟨rfl, ⟨nd, rfl⟩⟩; refine ⟨_, rfl, ?_⟩))
        go_ret
        exact ⟨by first | rfl | (simp [errW_none, errW_some] <;> rfl) | (simp [*, errW_none, errW_some] <;> rfl), by repeat (first | (with_reducible first | exact HB.out | apply below_alloc | apply pw_below_drewN | apply below_drew1) | exact HB.out)⟩
    · rw [if_neg c4] at H
      have c4b0 : (t208 == 0) = false := beq_eq_false_iff_ne.mpr c4
      have c4b1 : (t208 != 0) = true := bne_iff_ne.mpr c4
      obtain rfl := Option.some.inj H
      go_enter Try.func40, Try.ntmps40
      go_wp2_with (first | ((with_reducible refine gate_callee (f := 38) rfl ?_); refine goesL_ (some 7) rfl rfl Try.func38 (by kernel_rfl) rfl #[.string (⟨#[97]⟩ : ByteArray)] rfl (by (try simp only [List.map_toArray, List.map_cons, List.map_nil]); first | done | rfl | (simp only [List.length_drop, List.length_take]; rfl)) ?_; (with_reducible refine (frame_Put.calls k (⟨#[97]⟩ : ByteArray) t204 t205 _ A1.out).mono ?_); rintro e w13 ⟨rfl, hb⟩; refine ⟨_, rfl, ?_⟩; have n0_ := Aside0.mk (below_step (by repeat (first | (with_reducible first | exact HB.out | apply below_alloc | apply pw_below_drewN | apply below_drew1) | exact HB.out)) hb); clear HB; have HB := n0_; clear n0_; (try clear hb); (try clear hb2); (try clear hk); (try clear hi)) | ((with_reducible refine gate_callee (f := 41) rfl ?_); refine goesL_ (some 12) rfl rfl Try.func41 (by kernel_rfl) rfl #[.string t204, .int .i64 0] rfl (by (try simp only [List.map_toArray, List.map_cons, List.map_nil]); first | done | rfl | (simp only [List.length_drop, List.length_take]; rfl)) ?_; (with_reducible refine (frame_Get.calls k t204 0 t206 t207 t208 _ A2.out).mono ?_); rintro e w' ⟨rfl, ⟨nd, rfl⟩⟩; refine ⟨_, rfl, ?_⟩))
      go_ret
      exact ⟨by first | rfl | (simp [errW_none, errW_some] <;> rfl) | (simp [*, errW_none, errW_some] <;> rfl), by repeat (first | (with_reducible first | exact HB.out | apply below_alloc | apply pw_below_drewN | apply below_drew1) | exact HB.out)⟩
  · rw [if_neg c3] at H
    have c3b0 : (t205 == 0) = false := beq_eq_false_iff_ne.mpr c3
    have c3b1 : (t205 != 0) = true := bne_iff_ne.mpr c3
    obtain rfl := Option.some.inj H
    go_enter Try.func40, Try.ntmps40
    go_wp2_with (first | ((with_reducible refine gate_callee (f := 38) rfl ?_); refine goesL_ (some 7) rfl rfl Try.func38 (by kernel_rfl) rfl #[.string (⟨#[97]⟩ : ByteArray)] rfl (by (try simp only [List.map_toArray, List.map_cons, List.map_nil]); first | done | rfl | (simp only [List.length_drop, List.length_take]; rfl)) ?_; (with_reducible refine (frame_Put.calls k (⟨#[97]⟩ : ByteArray) t204 t205 _ A1.out).mono ?_); rintro e w14 ⟨rfl, hb⟩; refine ⟨_, rfl, ?_⟩; have n0_ := Aside0.mk (below_step (by repeat (first | (with_reducible first | exact HB.out | apply below_alloc | apply pw_below_drewN | apply below_drew1) | exact HB.out)) hb); clear HB; have HB := n0_; clear n0_; (try clear hb); (try clear hb2); (try clear hk); (try clear hi)) | ((with_reducible refine gate_callee (f := 41) rfl ?_); refine goesL_ (some 12) rfl rfl Try.func41 (by kernel_rfl) rfl #[.string t204, .int .i64 0] rfl (by (try simp only [List.map_toArray, List.map_cons, List.map_nil]); first | done | rfl | (simp only [List.length_drop, List.length_take]; rfl)) ?_; (with_reducible refine (frame_Get.calls k t204 0 t206 t207 t208 _ A2.out).mono ?_); rintro e w' ⟨rfl, ⟨nd, rfl⟩⟩; refine ⟨_, rfl, ?_⟩))
    go_ret
    exact ⟨by first | rfl | (simp [errW_none, errW_some] <;> rfl) | (simp [*, errW_none, errW_some] <;> rfl), by repeat (first | (with_reducible first | exact HB.out | apply below_alloc | apply pw_below_drewN | apply below_drew1) | exact HB.out)⟩

/-! ### precinctlaw03_FramePuts: function 12 -/
def precinctlaw03_FramePuts.f (k : Nat) (a0 : ByteArray) : Option (Bool) := (frame_Put.f k a0).bind fun bt210 => ((precinctref03_Put.f k a0).bind fun bt212 => ((precinctlaw03_wakes.f k).bind fun t214 => (if t214 = true then (if bt210.1.toList = bt212.1.toList then (some (bt210.2 == bt212.2)) else (some false)) else (some false))))
theorem precinctlaw03_FramePuts.mono : ∀ a0 k, LeO (precinctlaw03_FramePuts.f k a0) (precinctlaw03_FramePuts.f (k + 1) a0) := by
  intro a0 k
  unfold precinctlaw03_FramePuts.f
  repeat' first
      | (with_reducible exact frame_Put.mono _ _)
      | (with_reducible exact precinctlaw03_wakes.mono _)
      | (with_reducible exact precinctref03_Put.mono _ _)
      | (with_reducible exact LeO.refl _)
      | (with_reducible exact LeO.none _)
      | (with_reducible refine LeO.ite ?_ ?_)
      | (with_reducible refine LeO.bind ?_ (fun _ => ?_))
      | exact frame_Put.mono _ _
      | exact precinctlaw03_wakes.mono _
      | exact precinctref03_Put.mono _ _
      | exact LeO.none _
      | refine LeO.ite ?_ ?_
      | refine LeO.bind ?_ (fun _ => ?_)
set_option maxHeartbeats 8000000 in
set_option maxRecDepth 100000 in
theorem precinctlaw03_FramePuts.calls (k : Nat) (a0 : ByteArray) (r : Bool) (w : World) (hT_ : Aside0 (r = true)) (h : precinctlaw03_FramePuts.f k a0 = some r) :
    Calls Try.prog 12 #[.string a0] w fun e w' => e = .returned (.bool r) ∧ Below w.heap.size w w' := by
  have HB := Aside0.mk (Below.refl w.heap.size w)
  have H : ((frame_Put.f k a0).bind fun bt210 => ((precinctref03_Put.f k a0).bind fun bt212 => ((precinctlaw03_wakes.f k).bind fun t214 => (if t214 = true then (if bt210.1.toList = bt212.1.toList then (some (bt210.2 == bt212.2)) else (some false)) else (some false))))) = some r := h
  clear h
  replace H := Option.bind_eq_some_iff.mp H
  obtain ⟨⟨t210, t211⟩, A20, H⟩ := H
  replace H : ((precinctref03_Put.f k a0).bind fun bt212 => ((precinctlaw03_wakes.f k).bind fun t214 => (if t214 = true then (if t210.toList = bt212.1.toList then (some (t211 == bt212.2)) else (some false)) else (some false)))) = some r := H
  have A2 := Aside0.mk A20
  clear A20
  replace H := Option.bind_eq_some_iff.mp H
  obtain ⟨⟨t212, t213⟩, A30, H⟩ := H
  replace H : ((precinctlaw03_wakes.f k).bind fun t214 => (if t214 = true then (if t210.toList = t212.toList then (some (t211 == t213)) else (some false)) else (some false))) = some r := H
  have A3 := Aside0.mk A30
  clear A30
  replace H := Option.bind_eq_some_iff.mp H
  obtain ⟨t214, A40, H⟩ := H
  replace H : (if t214 = true then (if t210.toList = t212.toList then (some (t211 == t213)) else (some false)) else (some false)) = some r := H
  have A4 := Aside0.mk A40
  clear A40
  by_cases c5 : t214 = true
  · subst c5
    have H1 : (if t210.toList = t212.toList then (some (t211 == t213)) else (some false)) = some r := by rw [if_pos rfl] at H; exact H
    clear H
    have H := H1
    clear H1
    by_cases c6 : t210.toList = t212.toList
    · rw [if_pos c6] at H
      have c6b0 : (t210.toList == t212.toList) = true := beq_iff_eq.mpr c6
      have c6b1 : (t210.toList != t212.toList) = false := bne_eq_false_iff_eq.mpr c6
      clear c6
      obtain rfl := Option.some.inj H
      go_enter Try.func12, Try.ntmps12
      go_wp2_with (first | ((with_reducible refine gate_callee (f := 38) rfl ?_); refine goesL_ (some 9) rfl rfl Try.func38 (by kernel_rfl) rfl #[.string a0] rfl (by (try simp only [List.map_toArray, List.map_cons, List.map_nil]); first | done | rfl | (simp only [List.length_drop, List.length_take]; rfl)) ?_; (with_reducible refine (frame_Put.calls k a0 t210 t211 _ A2.out).mono ?_); rintro e w7 ⟨rfl, hb⟩; refine ⟨_, rfl, ?_⟩; have n0_ := Aside0.mk (below_step (by repeat (first | (with_reducible first | exact HB.out | apply below_alloc | apply pw_below_drewN | apply below_drew1) | exact HB.out)) hb); clear HB; have HB := n0_; clear n0_; (try clear hb); (try clear hb2); (try clear hk); (try clear hi)) | ((with_reducible refine gate_callee (f := 39) rfl ?_); refine goesL_ (some 14) rfl rfl Try.func39 (by kernel_rfl) rfl #[.string a0] rfl (by (try simp only [List.map_toArray, List.map_cons, List.map_nil]); first | done | rfl | (simp only [List.length_drop, List.length_take]; rfl)) ?_; (with_reducible refine (precinctref03_Put.calls k a0 t212 t213 _ A3.out).mono ?_); rintro e w8 ⟨rfl, hb⟩; refine ⟨_, rfl, ?_⟩; have n0_ := Aside0.mk (below_step (by repeat (first | (with_reducible first | exact HB.out | apply below_alloc | apply pw_below_drewN | apply below_drew1) | exact HB.out)) hb); clear HB; have HB := n0_; clear n0_; (try clear hb); (try clear hb2); (try clear hk); (try clear hi)) | ((with_reducible refine gate_callee (f := 40) rfl ?_); refine goesL_ (some 17) rfl rfl Try.func40 (by kernel_rfl) rfl #[] rfl (by (try simp only [List.map_toArray, List.map_cons, List.map_nil]); first | done | rfl | (simp only [List.length_drop, List.length_take]; rfl)) ?_; (with_reducible refine (precinctlaw03_wakes.calls k  true _ A4.out).mono ?_); rintro e w9 ⟨rfl, hb⟩; refine ⟨_, rfl, ?_⟩; have n0_ := Aside0.mk (below_step (by repeat (first | (with_reducible first | exact HB.out | apply below_alloc | apply pw_below_drewN | apply below_drew1) | exact HB.out)) hb); clear HB; have HB := n0_; clear n0_; (try clear hb); (try clear hb2); (try clear hk); (try clear hi)))
      go_ret
      exact ⟨by first | rfl | (simp [errW_none, errW_some] <;> rfl) | (simp [*, errW_none, errW_some] <;> rfl), by repeat (first | (with_reducible first | exact HB.out | apply below_alloc | apply pw_below_drewN | apply below_drew1) | exact HB.out)⟩
    · rw [if_neg c6] at H
      have c6b0 : (t210.toList == t212.toList) = false := beq_eq_false_iff_ne.mpr c6
      have c6b1 : (t210.toList != t212.toList) = true := bne_iff_ne.mpr c6
      exact absurd ((Option.some.inj H).trans hT_.out) (by decide)
  · replace c5 := Bool.eq_false_iff.mpr c5
    subst c5
    have H1 : (some false) = some r := by rw [if_neg (show ¬ (false = true) by decide)] at H; exact H
    clear H
    have H := H1
    clear H1
    exact absurd ((Option.some.inj H).trans hT_.out) (by decide)

/-- THE ONE PURE STATEMENT of precinctlaw03_FramePuts: yours. -/
def precinctlaw03_FramePuts.Pure : Prop := ∀ (a0 : ByteArray), a0.size ≤ 140737488351232 → ∃ k, precinctlaw03_FramePuts.f k a0 = some true
theorem precinctlaw03_FramePuts.walk (P : precinctlaw03_FramePuts.Pure) (a0 : ByteArray) (w : World) (w0 : a0.size ≤ 140737488351232) :
    Calls Try.prog 12 #[.string a0] w fun e w' => e = .returned (.bool true) ∧ Below w.heap.size w w' := by
  obtain ⟨k, h⟩ := P a0 w0
  refine (precinctlaw03_FramePuts.calls k a0 true w ⟨rfl⟩ h).mono ?_
  rintro e w' ⟨rfl, hd⟩
  exact ⟨rfl, hd⟩

/-! ### precinctref03_Get: function 42 -/
def precinctref03_Get.f (k : Nat) (a0 : ByteArray) (a1 : Int) : Option (ByteArray × Int × Int) := (precinctref01_Get.f k a0 a1 2).bind fun bt215 => (if bt215.2.2 = 0 then (if bt215.1 = 0 then (some ((⟨#[]⟩ : ByteArray), 0, 13)) else (if bt215.1 > 4096 then (some ((⟨#[]⟩ : ByteArray), 0, 5)) else ((precinctref01_Get.f k a0 bt215.2.1 4).bind fun bt218 => (if bt218.2.2 = 0 then (if (wrap64 (bt215.1)) > (wrap64 ((a0.size : Int) - bt218.2.1)) then (some ((⟨#[]⟩ : ByteArray), 0, 3)) else (if 0 ≤ bt218.2.1 then (if bt218.2.1 ≤ (wrap64 (bt218.2.1 + (wrap64 (bt215.1)))) then (if (wrap64 (bt218.2.1 + (wrap64 (bt215.1)))) ≤ (a0.size : Int) then (if 0 ≤ a1 then (if a1 ≤ bt215.2.1 then (if bt215.2.1 ≤ (a0.size : Int) then (if (a0.extract (a1 : Int).toNat (bt215.2.1 : Int).toNat).size + (a0.extract (bt218.2.1 : Int).toNat ((wrap64 (bt218.2.1 + (wrap64 (bt215.1)))) : Int).toNat).size ≤ 9223372036854775807 then ((precinctref03_Sum.f k ((a0.extract (a1 : Int).toNat (bt215.2.1 : Int).toNat) ++ (a0.extract (bt218.2.1 : Int).toNat ((wrap64 (bt218.2.1 + (wrap64 (bt215.1)))) : Int).toNat))).bind fun t221 => (if (IntKind.u64.wrap (t221)) = bt218.1 then (some (a0.extract (bt218.2.1 : Int).toNat ((wrap64 (bt218.2.1 + (wrap64 (bt215.1)))) : Int).toNat, wrap64 (bt218.2.1 + (wrap64 (bt215.1))), 0)) else (some ((⟨#[]⟩ : ByteArray), 0, 6)))) else (none)) else (none)) else (none)) else (none)) else (none)) else (none)) else (none))) else (some ((⟨#[]⟩ : ByteArray), 0, 3)))))) else (some ((⟨#[]⟩ : ByteArray), 0, bt215.2.2)))
theorem precinctref03_Get.mono : ∀ a0 a1 k, LeO (precinctref03_Get.f k a0 a1) (precinctref03_Get.f (k + 1) a0 a1) := by
  intro a0 a1 k
  unfold precinctref03_Get.f
  repeat' first
      | (with_reducible exact precinctref01_Get.mono _ _ _ _)
      | (with_reducible exact precinctref03_Sum.mono _ _)
      | (with_reducible exact LeO.refl _)
      | (with_reducible exact LeO.none _)
      | (with_reducible refine LeO.ite ?_ ?_)
      | (with_reducible refine LeO.bind ?_ (fun _ => ?_))
      | exact precinctref01_Get.mono _ _ _ _
      | exact precinctref03_Sum.mono _ _
      | exact LeO.none _
      | refine LeO.ite ?_ ?_
      | refine LeO.bind ?_ (fun _ => ?_)
set_option maxHeartbeats 8000000 in
set_option maxRecDepth 100000 in
theorem precinctref03_Get.calls (k : Nat) (a0 : ByteArray) (a1 : Int) (r1 : ByteArray) (r2 : Int) (r3 : Int) (w : World) (h : precinctref03_Get.f k a0 a1 = some (r1, r2, r3)) :
    Calls Try.prog 42 #[.string a0, .int .i64 a1] w fun e w' => e = .returned (.tuple #[.string r1, .int .i64 r2, .int .i64 r3]) ∧ Drawn0 w w' := by
  have H : ((precinctref01_Get.f k a0 a1 2).bind fun bt215 => (if bt215.2.2 = 0 then (if bt215.1 = 0 then (some ((⟨#[]⟩ : ByteArray), 0, 13)) else (if bt215.1 > 4096 then (some ((⟨#[]⟩ : ByteArray), 0, 5)) else ((precinctref01_Get.f k a0 bt215.2.1 4).bind fun bt218 => (if bt218.2.2 = 0 then (if (wrap64 (bt215.1)) > (wrap64 ((a0.size : Int) - bt218.2.1)) then (some ((⟨#[]⟩ : ByteArray), 0, 3)) else (if 0 ≤ bt218.2.1 then (if bt218.2.1 ≤ (wrap64 (bt218.2.1 + (wrap64 (bt215.1)))) then (if (wrap64 (bt218.2.1 + (wrap64 (bt215.1)))) ≤ (a0.size : Int) then (if 0 ≤ a1 then (if a1 ≤ bt215.2.1 then (if bt215.2.1 ≤ (a0.size : Int) then (if (a0.extract (a1 : Int).toNat (bt215.2.1 : Int).toNat).size + (a0.extract (bt218.2.1 : Int).toNat ((wrap64 (bt218.2.1 + (wrap64 (bt215.1)))) : Int).toNat).size ≤ 9223372036854775807 then ((precinctref03_Sum.f k ((a0.extract (a1 : Int).toNat (bt215.2.1 : Int).toNat) ++ (a0.extract (bt218.2.1 : Int).toNat ((wrap64 (bt218.2.1 + (wrap64 (bt215.1)))) : Int).toNat))).bind fun t221 => (if (IntKind.u64.wrap (t221)) = bt218.1 then (some (a0.extract (bt218.2.1 : Int).toNat ((wrap64 (bt218.2.1 + (wrap64 (bt215.1)))) : Int).toNat, wrap64 (bt218.2.1 + (wrap64 (bt215.1))), 0)) else (some ((⟨#[]⟩ : ByteArray), 0, 6)))) else (none)) else (none)) else (none)) else (none)) else (none)) else (none)) else (none))) else (some ((⟨#[]⟩ : ByteArray), 0, 3)))))) else (some ((⟨#[]⟩ : ByteArray), 0, bt215.2.2)))) = some (r1, r2, r3) := h
  clear h
  replace H := Option.bind_eq_some_iff.mp H
  obtain ⟨⟨t215, t216, t217⟩, A30, H⟩ := H
  replace H : (if t217 = 0 then (if t215 = 0 then (some ((⟨#[]⟩ : ByteArray), 0, 13)) else (if t215 > 4096 then (some ((⟨#[]⟩ : ByteArray), 0, 5)) else ((precinctref01_Get.f k a0 t216 4).bind fun bt218 => (if bt218.2.2 = 0 then (if (wrap64 (t215)) > (wrap64 ((a0.size : Int) - bt218.2.1)) then (some ((⟨#[]⟩ : ByteArray), 0, 3)) else (if 0 ≤ bt218.2.1 then (if bt218.2.1 ≤ (wrap64 (bt218.2.1 + (wrap64 (t215)))) then (if (wrap64 (bt218.2.1 + (wrap64 (t215)))) ≤ (a0.size : Int) then (if 0 ≤ a1 then (if a1 ≤ t216 then (if t216 ≤ (a0.size : Int) then (if (a0.extract (a1 : Int).toNat (t216 : Int).toNat).size + (a0.extract (bt218.2.1 : Int).toNat ((wrap64 (bt218.2.1 + (wrap64 (t215)))) : Int).toNat).size ≤ 9223372036854775807 then ((precinctref03_Sum.f k ((a0.extract (a1 : Int).toNat (t216 : Int).toNat) ++ (a0.extract (bt218.2.1 : Int).toNat ((wrap64 (bt218.2.1 + (wrap64 (t215)))) : Int).toNat))).bind fun t221 => (if (IntKind.u64.wrap (t221)) = bt218.1 then (some (a0.extract (bt218.2.1 : Int).toNat ((wrap64 (bt218.2.1 + (wrap64 (t215)))) : Int).toNat, wrap64 (bt218.2.1 + (wrap64 (t215))), 0)) else (some ((⟨#[]⟩ : ByteArray), 0, 6)))) else (none)) else (none)) else (none)) else (none)) else (none)) else (none)) else (none))) else (some ((⟨#[]⟩ : ByteArray), 0, 3)))))) else (some ((⟨#[]⟩ : ByteArray), 0, t217))) = some (r1, r2, r3) := H
  have A3 := Aside0.mk A30
  clear A30
  by_cases c4 : t217 = 0
  · rw [if_pos c4] at H
    have c4b0 : (t217 == 0) = true := beq_iff_eq.mpr c4
    have c4b1 : (t217 != 0) = false := bne_eq_false_iff_eq.mpr c4
    clear c4
    by_cases c5 : t215 = 0
    · rw [if_pos c5] at H
      have c5b0 : (t215 == 0) = true := beq_iff_eq.mpr c5
      have c5b1 : (t215 != 0) = false := bne_eq_false_iff_eq.mpr c5
      clear c5
      simp only [Option.some.injEq, Prod.mk.injEq] at H
      obtain ⟨rfl, rfl, rfl⟩ := H
      go_enter Try.func42, Try.ntmps42
      go_wp2_with (first | ((with_reducible refine gate_callee (f := 32) rfl ?_); refine goesL_ (some 18) rfl rfl Try.func32 (by kernel_rfl) rfl #[.string a0, .int .i64 a1, .int .i64 2] rfl (by (try simp only [List.map_toArray, List.map_cons, List.map_nil]); first | done | rfl | (simp only [List.length_drop, List.length_take]; rfl)) ?_; (with_reducible refine (precinctref01_Get.calls k a0 a1 2 t215 t216 t217 _ A3.out).mono ?_); rintro e w' ⟨rfl, ⟨nd, rfl⟩⟩; refine ⟨_, rfl, ?_⟩))
      go_ret3
      exact ⟨by first | rfl | (simp; done) | (simp [*]; done), by repeat (first | exact Drawn0.refl _ | apply Drawn0.step)⟩
    · rw [if_neg c5] at H
      have c5b0 : (t215 == 0) = false := beq_eq_false_iff_ne.mpr c5
      have c5b1 : (t215 != 0) = true := bne_iff_ne.mpr c5
      by_cases c6 : t215 > 4096
      · rw [if_pos c6] at H
        have c6b0 : decide (4096 < t215) = true := decide_eq_true c6
        clear c6
        simp only [Option.some.injEq, Prod.mk.injEq] at H
        obtain ⟨rfl, rfl, rfl⟩ := H
        go_enter Try.func42, Try.ntmps42
        go_wp2_with (first | ((with_reducible refine gate_callee (f := 32) rfl ?_); refine goesL_ (some 18) rfl rfl Try.func32 (by kernel_rfl) rfl #[.string a0, .int .i64 a1, .int .i64 2] rfl (by (try simp only [List.map_toArray, List.map_cons, List.map_nil]); first | done | rfl | (simp only [List.length_drop, List.length_take]; rfl)) ?_; (with_reducible refine (precinctref01_Get.calls k a0 a1 2 t215 t216 t217 _ A3.out).mono ?_); rintro e w' ⟨rfl, ⟨nd, rfl⟩⟩; refine ⟨_, rfl, ?_⟩))
        go_ret3
        exact ⟨by first | rfl | (simp; done) | (simp [*]; done), by repeat (first | exact Drawn0.refl _ | apply Drawn0.step)⟩
      · rw [if_neg c6] at H
        have c6b0 : decide (4096 < t215) = false := decide_eq_false c6
        clear c6
        replace H := Option.bind_eq_some_iff.mp H
        obtain ⟨⟨t218, t219, t220⟩, A70, H⟩ := H
        replace H : (if t220 = 0 then (if (wrap64 (t215)) > (wrap64 ((a0.size : Int) - t219)) then (some ((⟨#[]⟩ : ByteArray), 0, 3)) else (if 0 ≤ t219 then (if t219 ≤ (wrap64 (t219 + (wrap64 (t215)))) then (if (wrap64 (t219 + (wrap64 (t215)))) ≤ (a0.size : Int) then (if 0 ≤ a1 then (if a1 ≤ t216 then (if t216 ≤ (a0.size : Int) then (if (a0.extract (a1 : Int).toNat (t216 : Int).toNat).size + (a0.extract (t219 : Int).toNat ((wrap64 (t219 + (wrap64 (t215)))) : Int).toNat).size ≤ 9223372036854775807 then ((precinctref03_Sum.f k ((a0.extract (a1 : Int).toNat (t216 : Int).toNat) ++ (a0.extract (t219 : Int).toNat ((wrap64 (t219 + (wrap64 (t215)))) : Int).toNat))).bind fun t221 => (if (IntKind.u64.wrap (t221)) = t218 then (some (a0.extract (t219 : Int).toNat ((wrap64 (t219 + (wrap64 (t215)))) : Int).toNat, wrap64 (t219 + (wrap64 (t215))), 0)) else (some ((⟨#[]⟩ : ByteArray), 0, 6)))) else (none)) else (none)) else (none)) else (none)) else (none)) else (none)) else (none))) else (some ((⟨#[]⟩ : ByteArray), 0, 3))) = some (r1, r2, r3) := H
        have A7 := Aside0.mk A70
        clear A70
        by_cases c8 : t220 = 0
        · rw [if_pos c8] at H
          have c8b0 : (t220 == 0) = true := beq_iff_eq.mpr c8
          have c8b1 : (t220 != 0) = false := bne_eq_false_iff_eq.mpr c8
          clear c8
          by_cases c9 : (wrap64 (t215)) > (wrap64 ((a0.size : Int) - t219))
          · rw [if_pos c9] at H
            have c9b0 : decide ((wrap64 ((a0.size : Int) - t219)) < (wrap64 (t215))) = true := decide_eq_true c9
            clear c9
            simp only [Option.some.injEq, Prod.mk.injEq] at H
            obtain ⟨rfl, rfl, rfl⟩ := H
            go_enter Try.func42, Try.ntmps42
            go_wp2_with (first | ((with_reducible refine gate_callee (f := 32) rfl ?_); refine goesL_ (some 18) rfl rfl Try.func32 (by kernel_rfl) rfl #[.string a0, .int .i64 a1, .int .i64 2] rfl (by (try simp only [List.map_toArray, List.map_cons, List.map_nil]); first | done | rfl | (simp only [List.length_drop, List.length_take]; rfl)) ?_; (with_reducible refine (precinctref01_Get.calls k a0 a1 2 t215 t216 t217 _ A3.out).mono ?_); rintro e w' ⟨rfl, ⟨nd, rfl⟩⟩; refine ⟨_, rfl, ?_⟩) | ((with_reducible refine gate_callee (f := 32) rfl ?_); refine goesL_ (some 32) rfl rfl Try.func32 (by kernel_rfl) rfl #[.string a0, .int .i64 t216, .int .i64 4] rfl (by (try simp only [List.map_toArray, List.map_cons, List.map_nil]); first | done | rfl | (simp only [List.length_drop, List.length_take]; rfl)) ?_; (with_reducible refine (precinctref01_Get.calls k a0 t216 4 t218 t219 t220 _ A7.out).mono ?_); rintro e w' ⟨rfl, ⟨nd, rfl⟩⟩; refine ⟨_, rfl, ?_⟩))
            go_ret3
            exact ⟨by first | rfl | (simp; done) | (simp [*]; done), by repeat (first | exact Drawn0.refl _ | apply Drawn0.step)⟩
          · rw [if_neg c9] at H
            have c9b0 : decide ((wrap64 ((a0.size : Int) - t219)) < (wrap64 (t215))) = false := decide_eq_false c9
            clear c9
            by_cases c10 : 0 ≤ t219
            · rw [if_pos c10] at H
              have c10b0 := eq_true c10
              have c10b1 : decide (0 ≤ t219) = true := decide_eq_true c10
              clear c10
              by_cases c11 : t219 ≤ (wrap64 (t219 + (wrap64 (t215))))
              · rw [if_pos c11] at H
                have c11b0 := eq_true c11
                have c11b1 : decide (t219 ≤ (wrap64 (t219 + (wrap64 (t215))))) = true := decide_eq_true c11
                by_cases c12 : (wrap64 (t219 + (wrap64 (t215)))) ≤ (a0.size : Int)
                · rw [if_pos c12] at H
                  have c12b0 := eq_true c12
                  have c12b1 : decide ((wrap64 (t219 + (wrap64 (t215)))) ≤ (a0.size : Int)) = true := decide_eq_true c12
                  by_cases c13 : 0 ≤ a1
                  · rw [if_pos c13] at H
                    have c13b0 := eq_true c13
                    have c13b1 : decide (0 ≤ a1) = true := decide_eq_true c13
                    clear c13
                    by_cases c14 : a1 ≤ t216
                    · rw [if_pos c14] at H
                      have c14b0 := eq_true c14
                      have c14b1 : decide (a1 ≤ t216) = true := decide_eq_true c14
                      clear c14
                      by_cases c15 : t216 ≤ (a0.size : Int)
                      · rw [if_pos c15] at H
                        have c15b0 := eq_true c15
                        have c15b1 : decide (t216 ≤ (a0.size : Int)) = true := decide_eq_true c15
                        clear c15
                        by_cases c16 : (a0.extract (a1 : Int).toNat (t216 : Int).toNat).size + (a0.extract (t219 : Int).toNat ((wrap64 (t219 + (wrap64 (t215)))) : Int).toNat).size ≤ 9223372036854775807
                        · rw [if_pos c16] at H
                          have c16b0 := eq_true c16
                          have c16b1 : decide ((a0.extract (a1 : Int).toNat (t216 : Int).toNat).size + (a0.extract (t219 : Int).toNat ((wrap64 (t219 + (wrap64 (t215)))) : Int).toNat).size ≤ 9223372036854775807) = true := decide_eq_true c16
                          try have c16b2 : (9223372036854775807 < (a0.extract (a1 : Int).toNat (t216 : Int).toNat).size + (a0.extract (t219 : Int).toNat ((wrap64 (t219 + (wrap64 (t215)))) : Int).toNat).size) = False := eq_false (Nat.not_lt.2 c16)
                          replace H := Option.bind_eq_some_iff.mp H
                          obtain ⟨t221, A170, H⟩ := H
                          replace H : (if (IntKind.u64.wrap (t221)) = t218 then (some (a0.extract (t219 : Int).toNat ((wrap64 (t219 + (wrap64 (t215)))) : Int).toNat, wrap64 (t219 + (wrap64 (t215))), 0)) else (some ((⟨#[]⟩ : ByteArray), 0, 6))) = some (r1, r2, r3) := H
                          have A17 := Aside0.mk A170
                          clear A170
                          by_cases c18 : (IntKind.u64.wrap (t221)) = t218
                          · rw [if_pos c18] at H
                            have c18b0 : ((IntKind.u64.wrap (t221)) == t218) = true := beq_iff_eq.mpr c18
                            have c18b1 : ((IntKind.u64.wrap (t221)) != t218) = false := bne_eq_false_iff_eq.mpr c18
                            clear c18
                            simp only [Option.some.injEq, Prod.mk.injEq] at H
                            obtain ⟨rfl, rfl, rfl⟩ := H
                            go_enter Try.func42, Try.ntmps42
                            go_wp2_with (first | ((with_reducible refine gate_callee (f := 32) rfl ?_); refine goesL_ (some 18) rfl rfl Try.func32 (by kernel_rfl) rfl #[.string a0, .int .i64 a1, .int .i64 2] rfl (by (try simp only [List.map_toArray, List.map_cons, List.map_nil]); first | done | rfl | (simp only [List.length_drop, List.length_take]; rfl)) ?_; (with_reducible refine (precinctref01_Get.calls k a0 a1 2 t215 t216 t217 _ A3.out).mono ?_); rintro e w' ⟨rfl, ⟨nd, rfl⟩⟩; refine ⟨_, rfl, ?_⟩) | ((with_reducible refine gate_callee (f := 32) rfl ?_); refine goesL_ (some 32) rfl rfl Try.func32 (by kernel_rfl) rfl #[.string a0, .int .i64 t216, .int .i64 4] rfl (by (try simp only [List.map_toArray, List.map_cons, List.map_nil]); first | done | rfl | (simp only [List.length_drop, List.length_take]; rfl)) ?_; (with_reducible refine (precinctref01_Get.calls k a0 t216 4 t218 t219 t220 _ A7.out).mono ?_); rintro e w' ⟨rfl, ⟨nd, rfl⟩⟩; refine ⟨_, rfl, ?_⟩) | ((with_reducible refine gate_callee (f := 28) rfl ?_); refine goesL_ (some 58) rfl rfl Try.func28 (by kernel_rfl) rfl #[.string ((a0.extract (a1 : Int).toNat (t216 : Int).toNat) ++ (a0.extract (t219 : Int).toNat ((wrap64 (t219 + (wrap64 (t215)))) : Int).toNat))] rfl (by (try simp only [List.map_toArray, List.map_cons, List.map_nil]); first | done | rfl | (simp only [List.length_drop, List.length_take]; rfl)) ?_; (with_reducible refine (precinctref03_Sum.calls k ((a0.extract (a1 : Int).toNat (t216 : Int).toNat) ++ (a0.extract (t219 : Int).toNat ((wrap64 (t219 + (wrap64 (t215)))) : Int).toNat)) t221 _ A17.out).mono ?_); rintro e w' ⟨rfl, ⟨nd, rfl⟩⟩; refine ⟨_, rfl, ?_⟩))
                            go_ret3
                            exact ⟨by first | rfl | (simp; done) | (simp [*]; done), by repeat (first | exact Drawn0.refl _ | apply Drawn0.step)⟩
                          · rw [if_neg c18] at H
                            have c18b0 : ((IntKind.u64.wrap (t221)) == t218) = false := beq_eq_false_iff_ne.mpr c18
                            have c18b1 : ((IntKind.u64.wrap (t221)) != t218) = true := bne_iff_ne.mpr c18
                            simp only [Option.some.injEq, Prod.mk.injEq] at H
                            obtain ⟨rfl, rfl, rfl⟩ := H
                            go_enter Try.func42, Try.ntmps42
                            go_wp2_with (first | ((with_reducible refine gate_callee (f := 32) rfl ?_); refine goesL_ (some 18) rfl rfl Try.func32 (by kernel_rfl) rfl #[.string a0, .int .i64 a1, .int .i64 2] rfl (by (try simp only [List.map_toArray, List.map_cons, List.map_nil]); first | done | rfl | (simp only [List.length_drop, List.length_take]; rfl)) ?_; (with_reducible refine (precinctref01_Get.calls k a0 a1 2 t215 t216 t217 _ A3.out).mono ?_); rintro e w' ⟨rfl, ⟨nd, rfl⟩⟩; refine ⟨_, rfl, ?_⟩) | ((with_reducible refine gate_callee (f := 32) rfl ?_); refine goesL_ (some 32) rfl rfl Try.func32 (by kernel_rfl) rfl #[.string a0, .int .i64 t216, .int .i64 4] rfl (by (try simp only [List.map_toArray, List.map_cons, List.map_nil]); first | done | rfl | (simp only [List.length_drop, List.length_take]; rfl)) ?_; (with_reducible refine (precinctref01_Get.calls k a0 t216 4 t218 t219 t220 _ A7.out).mono ?_); rintro e w' ⟨rfl, ⟨nd, rfl⟩⟩; refine ⟨_, rfl, ?_⟩) | ((with_reducible refine gate_callee (f := 28) rfl ?_); refine goesL_ (some 58) rfl rfl Try.func28 (by kernel_rfl) rfl #[.string ((a0.extract (a1 : Int).toNat (t216 : Int).toNat) ++ (a0.extract (t219 : Int).toNat ((wrap64 (t219 + (wrap64 (t215)))) : Int).toNat))] rfl (by (try simp only [List.map_toArray, List.map_cons, List.map_nil]); first | done | rfl | (simp only [List.length_drop, List.length_take]; rfl)) ?_; (with_reducible refine (precinctref03_Sum.calls k ((a0.extract (a1 : Int).toNat (t216 : Int).toNat) ++ (a0.extract (t219 : Int).toNat ((wrap64 (t219 + (wrap64 (t215)))) : Int).toNat)) t221 _ A17.out).mono ?_); rintro e w' ⟨rfl, ⟨nd, rfl⟩⟩; refine ⟨_, rfl, ?_⟩))
                            go_ret3
                            exact ⟨by first | rfl | (simp; done) | (simp [*]; done), by repeat (first | exact Drawn0.refl _ | apply Drawn0.step)⟩
                        · rw [if_neg c16] at H
                          exact absurd H (by simp)
                      · rw [if_neg c15] at H
                        exact absurd H (by simp)
                    · rw [if_neg c14] at H
                      exact absurd H (by simp)
                  · rw [if_neg c13] at H
                    exact absurd H (by simp)
                · rw [if_neg c12] at H
                  exact absurd H (by simp)
              · rw [if_neg c11] at H
                exact absurd H (by simp)
            · rw [if_neg c10] at H
              exact absurd H (by simp)
        · rw [if_neg c8] at H
          have c8b0 : (t220 == 0) = false := beq_eq_false_iff_ne.mpr c8
          have c8b1 : (t220 != 0) = true := bne_iff_ne.mpr c8
          simp only [Option.some.injEq, Prod.mk.injEq] at H
          obtain ⟨rfl, rfl, rfl⟩ := H
          go_enter Try.func42, Try.ntmps42
          go_wp2_with (first | ((with_reducible refine gate_callee (f := 32) rfl ?_); refine goesL_ (some 18) rfl rfl Try.func32 (by kernel_rfl) rfl #[.string a0, .int .i64 a1, .int .i64 2] rfl (by (try simp only [List.map_toArray, List.map_cons, List.map_nil]); first | done | rfl | (simp only [List.length_drop, List.length_take]; rfl)) ?_; (with_reducible refine (precinctref01_Get.calls k a0 a1 2 t215 t216 t217 _ A3.out).mono ?_); rintro e w' ⟨rfl, ⟨nd, rfl⟩⟩; refine ⟨_, rfl, ?_⟩) | ((with_reducible refine gate_callee (f := 32) rfl ?_); refine goesL_ (some 32) rfl rfl Try.func32 (by kernel_rfl) rfl #[.string a0, .int .i64 t216, .int .i64 4] rfl (by (try simp only [List.map_toArray, List.map_cons, List.map_nil]); first | done | rfl | (simp only [List.length_drop, List.length_take]; rfl)) ?_; (with_reducible refine (precinctref01_Get.calls k a0 t216 4 t218 t219 t220 _ A7.out).mono ?_); rintro e w' ⟨rfl, ⟨nd, rfl⟩⟩; refine ⟨_, rfl, ?_⟩))
          go_ret3
          exact ⟨by first | rfl | (simp; done) | (simp [*]; done), by repeat (first | exact Drawn0.refl _ | apply Drawn0.step)⟩
  · rw [if_neg c4] at H
    have c4b0 : (t217 == 0) = false := beq_eq_false_iff_ne.mpr c4
    have c4b1 : (t217 != 0) = true := bne_iff_ne.mpr c4
    simp only [Option.some.injEq, Prod.mk.injEq] at H
    obtain ⟨rfl, rfl, rfl⟩ := H
    go_enter Try.func42, Try.ntmps42
    go_wp2_with (first | ((with_reducible refine gate_callee (f := 32) rfl ?_); refine goesL_ (some 18) rfl rfl Try.func32 (by kernel_rfl) rfl #[.string a0, .int .i64 a1, .int .i64 2] rfl (by (try simp only [List.map_toArray, List.map_cons, List.map_nil]); first | done | rfl | (simp only [List.length_drop, List.length_take]; rfl)) ?_; (with_reducible refine (precinctref01_Get.calls k a0 a1 2 t215 t216 t217 _ A3.out).mono ?_); rintro e w' ⟨rfl, ⟨nd, rfl⟩⟩; refine ⟨_, rfl, ?_⟩))
    go_ret3
    exact ⟨by first | rfl | (simp; done) | (simp [*]; done), by repeat (first | exact Drawn0.refl _ | apply Drawn0.step)⟩

/-! ### precinctlaw03_FrameGets: function 13 -/
def precinctlaw03_FrameGets.f (k : Nat) (a0 : ByteArray) (a1 : Int) : Option (Bool) := (frame_Get.f k a0 a1).bind fun bt222 => ((precinctref03_Get.f k a0 a1).bind fun bt225 => ((precinctlaw03_wakes.f k).bind fun t228 => (if t228 = true then (if bt222.1.toList = bt225.1.toList then (if bt222.2.1 = bt225.2.1 then (some (bt222.2.2 == bt225.2.2)) else (some false)) else (some false)) else (some false))))
theorem precinctlaw03_FrameGets.mono : ∀ a0 a1 k, LeO (precinctlaw03_FrameGets.f k a0 a1) (precinctlaw03_FrameGets.f (k + 1) a0 a1) := by
  intro a0 a1 k
  unfold precinctlaw03_FrameGets.f
  repeat' first
      | (with_reducible exact frame_Get.mono _ _ _)
      | (with_reducible exact precinctlaw03_wakes.mono _)
      | (with_reducible exact precinctref03_Get.mono _ _ _)
      | (with_reducible exact LeO.refl _)
      | (with_reducible exact LeO.none _)
      | (with_reducible refine LeO.ite ?_ ?_)
      | (with_reducible refine LeO.bind ?_ (fun _ => ?_))
      | exact frame_Get.mono _ _ _
      | exact precinctlaw03_wakes.mono _
      | exact precinctref03_Get.mono _ _ _
      | exact LeO.none _
      | refine LeO.ite ?_ ?_
      | refine LeO.bind ?_ (fun _ => ?_)
set_option maxHeartbeats 8000000 in
set_option maxRecDepth 100000 in
theorem precinctlaw03_FrameGets.calls (k : Nat) (a0 : ByteArray) (a1 : Int) (r : Bool) (w : World) (hT_ : Aside0 (r = true)) (h : precinctlaw03_FrameGets.f k a0 a1 = some r) :
    Calls Try.prog 13 #[.string a0, .int .i64 a1] w fun e w' => e = .returned (.bool r) ∧ Below w.heap.size w w' := by
  have HB := Aside0.mk (Below.refl w.heap.size w)
  have H : ((frame_Get.f k a0 a1).bind fun bt222 => ((precinctref03_Get.f k a0 a1).bind fun bt225 => ((precinctlaw03_wakes.f k).bind fun t228 => (if t228 = true then (if bt222.1.toList = bt225.1.toList then (if bt222.2.1 = bt225.2.1 then (some (bt222.2.2 == bt225.2.2)) else (some false)) else (some false)) else (some false))))) = some r := h
  clear h
  replace H := Option.bind_eq_some_iff.mp H
  obtain ⟨⟨t222, t223, t224⟩, A30, H⟩ := H
  replace H : ((precinctref03_Get.f k a0 a1).bind fun bt225 => ((precinctlaw03_wakes.f k).bind fun t228 => (if t228 = true then (if t222.toList = bt225.1.toList then (if t223 = bt225.2.1 then (some (t224 == bt225.2.2)) else (some false)) else (some false)) else (some false)))) = some r := H
  have A3 := Aside0.mk A30
  clear A30
  replace H := Option.bind_eq_some_iff.mp H
  obtain ⟨⟨t225, t226, t227⟩, A40, H⟩ := H
  replace H : ((precinctlaw03_wakes.f k).bind fun t228 => (if t228 = true then (if t222.toList = t225.toList then (if t223 = t226 then (some (t224 == t227)) else (some false)) else (some false)) else (some false))) = some r := H
  have A4 := Aside0.mk A40
  clear A40
  replace H := Option.bind_eq_some_iff.mp H
  obtain ⟨t228, A50, H⟩ := H
  replace H : (if t228 = true then (if t222.toList = t225.toList then (if t223 = t226 then (some (t224 == t227)) else (some false)) else (some false)) else (some false)) = some r := H
  have A5 := Aside0.mk A50
  clear A50
  by_cases c6 : t228 = true
  · subst c6
    have H1 : (if t222.toList = t225.toList then (if t223 = t226 then (some (t224 == t227)) else (some false)) else (some false)) = some r := by rw [if_pos rfl] at H; exact H
    clear H
    have H := H1
    clear H1
    by_cases c7 : t222.toList = t225.toList
    · rw [if_pos c7] at H
      have c7b0 : (t222.toList == t225.toList) = true := beq_iff_eq.mpr c7
      have c7b1 : (t222.toList != t225.toList) = false := bne_eq_false_iff_eq.mpr c7
      clear c7
      by_cases c8 : t223 = t226
      · rw [if_pos c8] at H
        have c8b0 : (t223 == t226) = true := beq_iff_eq.mpr c8
        have c8b1 : (t223 != t226) = false := bne_eq_false_iff_eq.mpr c8
        clear c8
        obtain rfl := Option.some.inj H
        go_enter Try.func13, Try.ntmps13
        go_wp2_with (first | ((with_reducible refine gate_callee (f := 41) rfl ?_); refine goesL_ (some 14) rfl rfl Try.func41 (by kernel_rfl) rfl #[.string a0, .int .i64 a1] rfl (by (try simp only [List.map_toArray, List.map_cons, List.map_nil]); first | done | rfl | (simp only [List.length_drop, List.length_take]; rfl)) ?_; (with_reducible refine (frame_Get.calls k a0 a1 t222 t223 t224 _ A3.out).mono ?_); rintro e w' ⟨rfl, ⟨nd, rfl⟩⟩; refine ⟨_, rfl, ?_⟩) | ((with_reducible refine gate_callee (f := 42) rfl ?_); refine goesL_ (some 21) rfl rfl Try.func42 (by kernel_rfl) rfl #[.string a0, .int .i64 a1] rfl (by (try simp only [List.map_toArray, List.map_cons, List.map_nil]); first | done | rfl | (simp only [List.length_drop, List.length_take]; rfl)) ?_; (with_reducible refine (precinctref03_Get.calls k a0 a1 t225 t226 t227 _ A4.out).mono ?_); rintro e w' ⟨rfl, ⟨nd, rfl⟩⟩; refine ⟨_, rfl, ?_⟩) | ((with_reducible refine gate_callee (f := 40) rfl ?_); refine goesL_ (some 25) rfl rfl Try.func40 (by kernel_rfl) rfl #[] rfl (by (try simp only [List.map_toArray, List.map_cons, List.map_nil]); first | done | rfl | (simp only [List.length_drop, List.length_take]; rfl)) ?_; (with_reducible refine (precinctlaw03_wakes.calls k  true _ A5.out).mono ?_); rintro e w9 ⟨rfl, hb⟩; refine ⟨_, rfl, ?_⟩; have n0_ := Aside0.mk (below_step (by repeat (first | (with_reducible first | exact HB.out | apply below_alloc | apply pw_below_drewN | apply below_drew1) | exact HB.out)) hb); clear HB; have HB := n0_; clear n0_; (try clear hb); (try clear hb2); (try clear hk); (try clear hi)))
        go_ret
        exact ⟨by first | rfl | (simp [errW_none, errW_some] <;> rfl) | (simp [*, errW_none, errW_some] <;> rfl), by repeat (first | (with_reducible first | exact HB.out | apply below_alloc | apply pw_below_drewN | apply below_drew1) | exact HB.out)⟩
      · rw [if_neg c8] at H
        have c8b0 : (t223 == t226) = false := beq_eq_false_iff_ne.mpr c8
        have c8b1 : (t223 != t226) = true := bne_iff_ne.mpr c8
        exact absurd ((Option.some.inj H).trans hT_.out) (by decide)
    · rw [if_neg c7] at H
      have c7b0 : (t222.toList == t225.toList) = false := beq_eq_false_iff_ne.mpr c7
      have c7b1 : (t222.toList != t225.toList) = true := bne_iff_ne.mpr c7
      exact absurd ((Option.some.inj H).trans hT_.out) (by decide)
  · replace c6 := Bool.eq_false_iff.mpr c6
    subst c6
    have H1 : (some false) = some r := by rw [if_neg (show ¬ (false = true) by decide)] at H; exact H
    clear H
    have H := H1
    clear H1
    exact absurd ((Option.some.inj H).trans hT_.out) (by decide)

/-- THE ONE PURE STATEMENT of precinctlaw03_FrameGets: yours. -/
def precinctlaw03_FrameGets.Pure : Prop := ∀ (a0 : ByteArray) (a1 : Int), a0.size ≤ 140737488351232 → (Lit.int .i64 a1).wf = true → ∃ k, precinctlaw03_FrameGets.f k a0 a1 = some true
theorem precinctlaw03_FrameGets.walk (P : precinctlaw03_FrameGets.Pure) (a0 : ByteArray) (a1 : Int) (w : World) (w0 : a0.size ≤ 140737488351232) (w1 : (Lit.int .i64 a1).wf = true) :
    Calls Try.prog 13 #[.string a0, .int .i64 a1] w fun e w' => e = .returned (.bool true) ∧ Below w.heap.size w w' := by
  obtain ⟨k, h⟩ := P a0 a1 w0 w1
  refine (precinctlaw03_FrameGets.calls k a0 a1 true w ⟨rfl⟩ h).mono ?_
  rintro e w' ⟨rfl, hd⟩
  exact ⟨rfl, hd⟩

/-! ### frame_All: function 43 -/
def frame_All.l0 : Nat → ByteArray → List ByteArray → Int → Option (List ByteArray × Int)
  | 0, _, _, _ => none
  | k + 1, x0, x4, x5 => (frame_Get.f k x0 x5).bind fun bt229 => (if bt229.2.2 = 0 then (if x4.length < 8796093022208 then (frame_All.l0 k x0 (x4 ++ [bt229.1]) bt229.2.1) else (none)) else (some (x4, x5)))
def frame_All.f (k : Nat) (a0 : ByteArray) : Option (List ByteArray × Int) := frame_All.l0 k a0 ([] : List ByteArray) 0
theorem frame_All.mono_l : ∀ k, (∀ y0 y1 y2, LeO (frame_All.l0 k y0 y1 y2) (frame_All.l0 (k + 1) y0 y1 y2))
  | 0 => fun _ _ _ r h => by simp [frame_All.l0] at h
  | k + 1 => by
    have ih0 := frame_All.mono_l k
    · intro y0 y1 y2
      unfold frame_All.l0
      repeat' first
      | (with_reducible exact ih0 _ _ _)
      | (with_reducible exact frame_Get.mono _ _ _)
      | (with_reducible exact LeO.refl _)
      | (with_reducible exact LeO.none _)
      | (with_reducible refine LeO.ite ?_ ?_)
      | (with_reducible refine LeO.bind ?_ (fun _ => ?_))
      | exact ih0 _ _ _
      | exact frame_Get.mono _ _ _
      | exact LeO.none _
      | refine LeO.ite ?_ ?_
      | refine LeO.bind ?_ (fun _ => ?_)
theorem frame_All.mono : ∀ a0 k, LeO (frame_All.f k a0) (frame_All.f (k + 1) a0) := by
  intro a0 k
  have ih0 := frame_All.mono_l k
  unfold frame_All.f
  repeat' first
      | (with_reducible exact ih0 _ _ _)
      | (with_reducible exact frame_Get.mono _ _ _)
      | (with_reducible exact LeO.refl _)
      | (with_reducible exact LeO.none _)
      | (with_reducible refine LeO.ite ?_ ?_)
      | (with_reducible refine LeO.bind ?_ (fun _ => ?_))
      | exact ih0 _ _ _
      | exact frame_Get.mono _ _ _
      | exact LeO.none _
      | refine LeO.ite ?_ ?_
      | refine LeO.bind ?_ (fun _ => ?_)
set_option maxHeartbeats 8000000 in
set_option maxRecDepth 100000 in
theorem frame_All.calls (k : Nat) (a0 : ByteArray) (r1 : List ByteArray) (r2 : Int) (w : World) (h : frame_All.f k a0 = some (r1, r2)) :
    Calls Try.prog 43 #[.string a0] w fun e w' => ∃ v0_ : Value, e = .returned (.tuple #[v0_, .int .i64 r2]) ∧ Kd.R Kd.string 9 w' w.heap.size (fun _ => True) v0_ r1 ∧ Below w.heap.size w w' := by
  have HB := Aside0.mk (Below.refl w.heap.size w)
  have H : (frame_All.l0 k a0 ([] : List ByteArray) 0) = some (r1, r2) := h
  clear h
  have H' := Aside0.mk H
  clear H
  go_enter Try.func43, Try.ntmps43
  go_wp2
  go_loopg [4, 5] k (fun kq v4 v5 w' => ∃ (x4_1 : List ByteArray) (x5_1 : Int), v5 = .int .i64 x5_1 ∧ Aside0 (frame_All.l0 kq a0 x4_1 x5_1 = some (r1, r2)) ∧ Aside0 (kq ≤ k) ∧ Aside0 (Kd.R Kd.string 9 w' w.heap.size (fun _ => True) v4 x4_1) ∧ Aside0 (Below w.heap.size w w'))
  case atStart => exact ⟨(([] : List ByteArray)), (0), (by first | rfl | (simp; done) | (simp [*]; done)), H', ⟨Nat.le_refl _⟩, ⟨by first | exact Kd.R_nil _ _ _ _ _ | exact Kd.N_nil _ _ _ _ _ | exact Kd.V_nil _ _ _ _ _ | exact Kd.Q_nil _ _ _ _ _ | exact Kd.S_nil _ _ _ _ _⟩, ⟨by repeat (first | (with_reducible first | exact HB.out | apply below_alloc | apply pw_below_drewN | apply below_drew1) | exact HB.out)⟩⟩
  case round =>
    clear H'
    obtain ⟨x4_1, x5_1, rfl, HA, HK1, HO_4, HB⟩ := hrel
    cases gk with
    | zero => exact absurd HA.out (by simp [frame_All.l0])
    | succ k1 =>
      have H := HA.out
      clear HA
      simp only [frame_All.l0] at H
      replace H := Option.bind_eq_some_iff.mp H
      obtain ⟨⟨t229, t230, t231⟩, A20, H⟩ := H
      replace H : (if t231 = 0 then (if x4_1.length < 8796093022208 then (frame_All.l0 k1 a0 (x4_1 ++ [t229]) t230) else (none)) else (some (x4_1, x5_1))) = some (r1, r2) := H
      have A2 := Aside0.mk A20
      clear A20
      by_cases c3 : t231 = 0
      · rw [if_pos c3] at H
        have c3b0 : (t231 == 0) = true := beq_iff_eq.mpr c3
        have c3b1 : (t231 != 0) = false := bne_eq_false_iff_eq.mpr c3
        clear c3
        by_cases c4 : x4_1.length < 8796093022208
        · rw [if_pos c4] at H
          have LMc4 := Aside0.mk c4
          clear c4
          obtain ⟨y232, hy232⟩ : ∃ y_ : List ByteArray, y_ = (x4_1 ++ [t229]) := ⟨_, rfl⟩
          replace H : (frame_All.l0 k1 a0 y232 t230) = some (r1, r2) := by first | (rw [hy232]; with_reducible exact H) | (have H2_ := (Option.bind_some _ _).symm.trans H; rw [hy232]; with_reducible exact H2_) | (have H2_ := (Option.bind_some _ _).symm.trans H; with_reducible exact H2_) | with_reducible exact H | (rw [hy232]; exact H) | exact H
          have Ny232 := Aside0.mk hy232
          clear hy232
          have H' := Aside0.mk H
          clear H
          go_wp2_with (first | ((with_reducible refine gate_callee (f := 41) rfl ?_); refine goesL_ (some 12) rfl rfl Try.func41 (by kernel_rfl) rfl #[.string a0, .int .i64 x5_1] rfl (by (try simp only [List.map_toArray, List.map_cons, List.map_nil]); first | done | rfl | (simp only [List.length_drop, List.length_take]; rfl)) ?_; (with_reducible refine (frame_Get.calls k1 a0 x5_1 t229 t230 t231 _ A2.out).mono ?_); rintro e w' ⟨rfl, ⟨nd, rfl⟩⟩; refine ⟨_, rfl, ?_⟩) | ((with_reducible refine gate_builtin (b := .append) (xs := #[.tmp 20, .tmp 22]) rfl ?_); at_builtin; refine Kd.R_append Kd.string (w0 := w) w.heap.size rfl (.tmp 20) (.tmp 22) 53 9 (.string ⟨#[]⟩) 16 rfl Try.underlying53 info9 rfl (by decide) (by omega) u4 x4_1 t229 [.string t229] (fun _ => True) (fun _ => False) rfl rfl ?aP (fun _ hk => hk.elim) ?aF ?aO ?aB ?aS ?aL ?_; (case aP => exact rfl); (case aB => exact (by repeat (first | (with_reducible first | exact HB.out | apply below_alloc | apply pw_below_drewN | apply below_drew1) | exact HB.out))); (case aF => exact (fun _ _ => trivial)); (case aO => exact (by (with_reducible repeat (first | apply Kd.R_alloc | apply Kd.R_drewN | apply Kd.R_drew)); exact HO_4.out)); (case aS => exact (below_size (by repeat (first | (with_reducible first | exact HB.out | apply below_alloc | apply pw_below_drewN | apply below_drew1) | exact HB.out)))); (case aL => have := LMc4.out; omega); intro v233 w5 ho hb hg hat; rw [← Ny232.out] at ho; have n0_ := Aside0.mk (hb); have n1_ := Aside0.mk (ho); clear HB; clear HO_4; have HB := n0_; have HO234 := n1_; clear n0_ n1_; clear ho hb hg hat))
          go_roundg k1
          case measure => have := HK1.out; omega
          case rel => exact ⟨(y232), (t230), (by first | rfl | (simp; done) | (simp [*]; done)), H', ⟨by have := HK1.out; omega⟩, ⟨by (with_reducible repeat (first | apply Kd.R_alloc | apply Kd.R_drewN | apply Kd.R_drew)); exact HO234.out⟩, ⟨by repeat (first | (with_reducible first | exact HB.out | apply below_alloc | apply pw_below_drewN | apply below_drew1) | exact HB.out)⟩⟩
        · rw [if_neg c4] at H
          exact absurd H (by simp)
      · rw [if_neg c3] at H
        have c3b0 : (t231 == 0) = false := beq_eq_false_iff_ne.mpr c3
        have c3b1 : (t231 != 0) = true := bne_iff_ne.mpr c3
        simp only [Option.some.injEq, Prod.mk.injEq] at H
        obtain ⟨rfl, rfl⟩ := H
        go_wp2_with (first | ((with_reducible refine gate_callee (f := 41) rfl ?_); refine goesL_ (some 12) rfl rfl Try.func41 (by kernel_rfl) rfl #[.string a0, .int .i64 x5_1] rfl (by (try simp only [List.map_toArray, List.map_cons, List.map_nil]); first | done | rfl | (simp only [List.length_drop, List.length_take]; rfl)) ?_; (with_reducible refine (frame_Get.calls k1 a0 x5_1 t229 t230 t231 _ A2.out).mono ?_); rintro e w' ⟨rfl, ⟨nd, rfl⟩⟩; refine ⟨_, rfl, ?_⟩))
        go_ret2
        exact ⟨_, by first | rfl | (simp [errW_none, errW_some] <;> rfl) | (simp [*, errW_none, errW_some] <;> rfl), by (with_reducible repeat (first | apply Kd.R_alloc | apply Kd.R_drewN | apply Kd.R_drew)); exact HO_4.out, by repeat (first | (with_reducible first | exact HB.out | apply below_alloc | apply pw_below_drewN | apply below_drew1) | exact HB.out)⟩

end Go.Proofs.Ytfccgiccllnkkaa.PX
