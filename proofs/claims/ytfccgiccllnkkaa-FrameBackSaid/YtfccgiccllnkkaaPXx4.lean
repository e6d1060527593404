-- printed by a program of this session out of the translation; see NOTES.md
import Derived.Test.YtfccgiccllnkkaaPXx0
import Derived.Test.YtfccgiccllnkkaaPXx1
import Derived.Test.YtfccgiccllnkkaaPXx2
import Derived.Test.YtfccgiccllnkkaaPXx3
namespace Go.Proofs.Ytfccgiccllnkkaa.PX
open Go.RowKit Go.Proofs.YtfccgiccllnkkaaW.PrintWords Go.Proofs.YtfccgiccllnkkaaW.PrintLast Go.Proofs.YtfccgiccllnkkaaW.PrintMore
attribute [local go_sem] max2_int min2_int max_two min_two max_three min_three max_four min_four   -- for this text's walks alone
set_option linter.unusedVariables false
set_option linter.unusedSimpArgs false

/-! ### precinctref01_Get: function 32 -/
mutual
def precinctref01_Get.j0 : Nat → ByteArray → Int → Int → Bool → Option (Int × Int × Int)
  | 0, _, _, _, _ => none
  | k + 1, x0, x1, x2, x26 => if x26 = true then (some (0, 0, 2)) else (if x2 > (wrap64 ((x0.size : Int) - x1)) then (some (0, 0, 3)) else (precinctref01_Get.l0 k x0 x1 x2 0 0))
def precinctref01_Get.l0 : Nat → ByteArray → Int → Int → Int → Int → Option (Int × Int × Int)
  | 0, _, _, _, _, _ => none
  | k + 1, x0, x1, x2, x9, x10 => if x10 < x2 then (if 0 ≤ (wrap64 (x1 + x10)) then (if (wrap64 (x1 + x10)) < (x0.size : Int) then (precinctref01_Get.l0 k x0 x1 x2 (IntKind.u64.wrap ((IntKind.u64.wrap (x9 * 256)) + (IntKind.u64.wrap (bt x0 (wrap64 (x1 + x10)))))) (wrap64 (x10 + 1))) else (none)) else (none)) else (some (x9, wrap64 (x1 + x2), 0))
end
def precinctref01_Get.f (k : Nat) (a0 : ByteArray) (a1 : Int) (a2 : Int) : Option (Int × Int × Int) := if a2 < 1 then (precinctref01_Get.j0 k a0 a1 a2 true) else (if a2 > 8 then (precinctref01_Get.j0 k a0 a1 a2 true) else (if a1 < 0 then (precinctref01_Get.j0 k a0 a1 a2 true) else (precinctref01_Get.j0 k a0 a1 a2 (decide (a1 > (a0.size : Int))))))
theorem precinctref01_Get.mono_l : ∀ k, (∀ y0 y1 y2 y3, LeO (precinctref01_Get.j0 k y0 y1 y2 y3) (precinctref01_Get.j0 (k + 1) y0 y1 y2 y3)) ∧ (∀ y0 y1 y2 y3 y4, LeO (precinctref01_Get.l0 k y0 y1 y2 y3 y4) (precinctref01_Get.l0 (k + 1) y0 y1 y2 y3 y4))
  | 0 => ⟨fun _ _ _ _ r h => by simp [precinctref01_Get.j0] at h, fun _ _ _ _ _ r h => by simp [precinctref01_Get.l0] at h⟩
  | k + 1 => by
    obtain ⟨ih0, ih1⟩ := precinctref01_Get.mono_l k
    refine ⟨?_, ?_⟩
    · intro y0 y1 y2 y3
      unfold precinctref01_Get.j0
      repeat' first
      | (with_reducible exact ih0 _ _ _ _)
      | (with_reducible exact ih1 _ _ _ _ _)
      | (with_reducible exact LeO.refl _)
      | (with_reducible exact LeO.none _)
      | (with_reducible refine LeO.ite ?_ ?_)
      | (with_reducible refine LeO.bind ?_ (fun _ => ?_))
      | exact ih0 _ _ _ _
      | exact ih1 _ _ _ _ _
      | exact LeO.none _
      | refine LeO.ite ?_ ?_
      | refine LeO.bind ?_ (fun _ => ?_)
    · intro y0 y1 y2 y3 y4
      unfold precinctref01_Get.l0
      repeat' first
      | (with_reducible exact ih0 _ _ _ _)
      | (with_reducible exact ih1 _ _ _ _ _)
      | (with_reducible exact LeO.refl _)
      | (with_reducible exact LeO.none _)
      | (with_reducible refine LeO.ite ?_ ?_)
      | (with_reducible refine LeO.bind ?_ (fun _ => ?_))
      | exact ih0 _ _ _ _
      | exact ih1 _ _ _ _ _
      | exact LeO.none _
      | refine LeO.ite ?_ ?_
      | refine LeO.bind ?_ (fun _ => ?_)
theorem precinctref01_Get.mono : ∀ a0 a1 a2 k, LeO (precinctref01_Get.f k a0 a1 a2) (precinctref01_Get.f (k + 1) a0 a1 a2) := by
  intro a0 a1 a2 k
  obtain ⟨ih0, ih1⟩ := precinctref01_Get.mono_l k
  unfold precinctref01_Get.f
  repeat' first
      | (with_reducible exact ih0 _ _ _ _)
      | (with_reducible exact ih1 _ _ _ _ _)
      | (with_reducible exact LeO.refl _)
      | (with_reducible exact LeO.none _)
      | (with_reducible refine LeO.ite ?_ ?_)
      | (with_reducible refine LeO.bind ?_ (fun _ => ?_))
      | exact ih0 _ _ _ _
      | exact ih1 _ _ _ _ _
      | exact LeO.none _
      | refine LeO.ite ?_ ?_
      | refine LeO.bind ?_ (fun _ => ?_)
set_option maxHeartbeats 8000000 in
set_option maxRecDepth 100000 in
theorem precinctref01_Get.calls (k : Nat) (a0 : ByteArray) (a1 : Int) (a2 : Int) (r1 : Int) (r2 : Int) (r3 : Int) (w : World) (h : precinctref01_Get.f k a0 a1 a2 = some (r1, r2, r3)) :
    Calls Try.prog 32 #[.string a0, .int .i64 a1, .int .i64 a2] w fun e w' => e = .returned (.tuple #[.int .u64 r1, .int .i64 r2, .int .i64 r3]) ∧ Drawn0 w w' := by
  have H : (if a2 < 1 then (precinctref01_Get.j0 k a0 a1 a2 true) else (if a2 > 8 then (precinctref01_Get.j0 k a0 a1 a2 true) else (if a1 < 0 then (precinctref01_Get.j0 k a0 a1 a2 true) else (precinctref01_Get.j0 k a0 a1 a2 (decide (a1 > (a0.size : Int))))))) = some (r1, r2, r3) := h
  clear h
  have HC4 := Aside0.mk H
  clear H
  go_enter Try.func32, Try.ntmps32
  go_upto_region 1 with (fail)
  go_cut [26] (fun v26 wc => ∃ (kq : Nat) (x26_3 : Bool), v26 = .bool x26_3 ∧ Aside0 (precinctref01_Get.j0 kq a0 a1 a2 x26_3 = some (r1, r2, r3)) ∧ Aside0 (kq ≤ k) ∧ Drawn0 w wc)
  case first =>
    have H := HC4.out
    clear HC4
    by_cases c5 : a2 < 1
    · rw [if_pos c5] at H
      have c5b0 : decide (a2 < 1) = true := decide_eq_true c5
      clear c5
      (first | rw [c5b0] | (simp only [i64_w, i32_w]; rw [c5b0]) | skip)
      have H' := Aside0.mk H
      clear H
      go_wp2
      go_meet
      case rel => exact ⟨_, (true), (by first | rfl | (simp; done) | (simp [*]; done)), H', ⟨by first | omega | exact Nat.le_refl _⟩, by repeat (first | exact Drawn0.refl _ | apply Drawn0.step)⟩
    · rw [if_neg c5] at H
      have c5b0 : decide (a2 < 1) = false := decide_eq_false c5
      clear c5
      (first | rw [c5b0] | (simp only [i64_w, i32_w]; rw [c5b0]) | skip)
      by_cases c6 : a2 > 8
      · rw [if_pos c6] at H
        have c6b0 : decide (8 < a2) = true := decide_eq_true c6
        clear c6
        have H' := Aside0.mk H
        clear H
        go_wp2
        go_meet
        case rel => exact ⟨_, (true), (by first | rfl | (simp; done) | (simp [*]; done)), H', ⟨by first | omega | exact Nat.le_refl _⟩, by repeat (first | exact Drawn0.refl _ | apply Drawn0.step)⟩
      · rw [if_neg c6] at H
        have c6b0 : decide (8 < a2) = false := decide_eq_false c6
        clear c6
        by_cases c7 : a1 < 0
        · rw [if_pos c7] at H
          have c7b0 : decide (a1 < 0) = true := decide_eq_true c7
          clear c7
          have H' := Aside0.mk H
          clear H
          go_wp2
          go_meet
          case rel => exact ⟨_, (true), (by first | rfl | (simp; done) | (simp [*]; done)), H', ⟨by first | omega | exact Nat.le_refl _⟩, by repeat (first | exact Drawn0.refl _ | apply Drawn0.step)⟩
        · rw [if_neg c7] at H
          have c7b0 : decide (a1 < 0) = false := decide_eq_false c7
          clear c7
          have H' := Aside0.mk H
          clear H
          go_wp2
          go_meet
          case rel => exact ⟨_, (decide (a1 > (a0.size : Int))), (by first | rfl | (simp; done) | (simp [*]; done)), H', ⟨by first | omega | exact Nat.le_refl _⟩, by repeat (first | exact Drawn0.refl _ | apply Drawn0.step)⟩
  case rest =>
    clear HC4
    try clear p2
    try clear c3
    try clear c5
    try clear c5b0
    try clear c6
    try clear c6b0
    try clear c7
    try clear c7b0
    obtain ⟨kq, x26_3, rfl, HA, HJ3, ⟨mc3, rfl⟩⟩ := hcut
    cases kq with
    | zero => exact absurd HA.out (by simp [precinctref01_Get.j0])
    | succ kj3 =>
      have H := HA.out
      clear HA
      simp only [precinctref01_Get.j0] at H
      by_cases c8 : x26_3 = true
      · subst c8
        have H1 : (some (0, 0, 2)) = some (r1, r2, r3) := by rw [if_pos rfl] at H; exact H
        clear H
        have H := H1
        clear H1
        simp only [Option.some.injEq, Prod.mk.injEq] at H
        obtain ⟨rfl, rfl, rfl⟩ := H
        go_wp2
        go_ret3
        exact ⟨by first | rfl | (simp; done) | (simp [*]; done), by repeat (first | exact Drawn0.refl _ | apply Drawn0.step)⟩
      · replace c8 := Bool.eq_false_iff.mpr c8
        subst c8
        have H1 : (if a2 > (wrap64 ((a0.size : Int) - a1)) then (some (0, 0, 3)) else (precinctref01_Get.l0 kj3 a0 a1 a2 0 0)) = some (r1, r2, r3) := by rw [if_neg (show ¬ (false = true) by decide)] at H; exact H
        clear H
        have H := H1
        clear H1
        by_cases c9 : a2 > (wrap64 ((a0.size : Int) - a1))
        · rw [if_pos c9] at H
          have c9b0 : decide ((wrap64 ((a0.size : Int) - a1)) < a2) = true := decide_eq_true c9
          clear c9
          simp only [Option.some.injEq, Prod.mk.injEq] at H
          obtain ⟨rfl, rfl, rfl⟩ := H
          go_wp2
          go_ret3
          exact ⟨by first | rfl | (simp; done) | (simp [*]; done), by repeat (first | exact Drawn0.refl _ | apply Drawn0.step)⟩
        · rw [if_neg c9] at H
          have c9b0 : decide ((wrap64 ((a0.size : Int) - a1)) < a2) = false := decide_eq_false c9
          clear c9
          have H' := Aside0.mk H
          clear H
          go_wp2
          go_loopg [9, 10] kj3 (fun kq v9 v10 w' => ∃ (x9_2 : Int) (x10_2 : Int), v9 = .int .u64 x9_2 ∧ v10 = .int .i64 x10_2 ∧ Aside0 (precinctref01_Get.l0 kq a0 a1 a2 x9_2 x10_2 = some (r1, r2, r3)) ∧ Aside0 (kq ≤ kj3) ∧ Drawn0 w w')
          case atStart => exact ⟨(0), (0), (by first | rfl | (simp; done) | (simp [*]; done)), (by first | rfl | (simp; done) | (simp [*]; done)), H', ⟨Nat.le_refl _⟩, by repeat (first | exact Drawn0.refl _ | apply Drawn0.step)⟩
          case round =>
            clear H'
            try clear p2
            try clear c3
            try clear c5
            try clear c5b0
            try clear c6
            try clear c6b0
            try clear p6
            try clear c7
            try clear c7b0
            try clear c8
            try clear c9
            try clear c9b0
            try clear p2
            obtain ⟨x9_2, x10_2, rfl, rfl, HA, HK2, ⟨m2, rfl⟩⟩ := hrel
            cases gk with
            | zero => exact absurd HA.out (by simp [precinctref01_Get.l0])
            | succ k2 =>
              have H := HA.out
              clear HA
              simp only [precinctref01_Get.l0] at H
              by_cases c10 : x10_2 < a2
              · rw [if_pos c10] at H
                have c10b0 : decide (x10_2 < a2) = true := decide_eq_true c10
                clear c10
                obtain ⟨ji11, hji11⟩ : ∃ j_ : Int, (wrap64 (a1 + x10_2)) = j_ := ⟨_, rfl⟩
                replace H : (if 0 ≤ (ji11) then (if (ji11) < (a0.size : Int) then (precinctref01_Get.l0 k2 a0 a1 a2 (IntKind.u64.wrap ((IntKind.u64.wrap (x9_2 * 256)) + (IntKind.u64.wrap (bt a0 (ji11))))) (wrap64 (x10_2 + 1))) else (none)) else (none)) = some (r1, r2, r3) := by first | (rw [hji11] at H; exact H) | (simp only [hji11] at H ⊢; exact H)
                have hji11w : (IntKind.i64.wrap (a1 + x10_2)) = ji11 := (i64_w _).trans hji11
                by_cases c12 : 0 ≤ (ji11)
                · rw [if_pos c12] at H
                  have c12b0 : decide (0 ≤ (ji11)) = true := decide_eq_true c12
                  clear c12
                  by_cases c13 : (ji11) < (a0.size : Int)
                  · rw [if_pos c13] at H
                    have c13b0 : decide ((ji11) < (a0.size : Int)) = true := decide_eq_true c13
                    clear c13
                    have H' := Aside0.mk H
                    clear H
                    have p14 : 0 ≤ ((ji11) : Int) := of_decide_eq_true (by first | (with_reducible assumption) | assumption)
                    have q14 : (ji11) < (a0.size : Int) := of_decide_eq_true (by first | (with_reducible assumption) | assumption)
                    have hx14 := bt_at a0 (ji11)
                    replace p14 := eq_true p14
                    replace q14 := eq_true q14
                    go_wp2
                    go_roundg k2
                    case measure => have := HJ3.out; have := HK2.out; omega
                    case rel => exact ⟨(IntKind.u64.wrap ((IntKind.u64.wrap (x9_2 * 256)) + (IntKind.u64.wrap (bt a0 (ji11))))), (wrap64 (x10_2 + 1)), (by first | rfl | (simp; done) | (simp only [← hji11] <;> (first | rfl | simp)) | (simp [*]; done)), (by first | rfl | (simp; done) | (simp [*]; done)), H', ⟨by have := HJ3.out; have := HK2.out; omega⟩, by repeat (first | exact Drawn0.refl _ | apply Drawn0.step)⟩
                  · rw [if_neg c13] at H
                    exact absurd H (by simp)
                · rw [if_neg c12] at H
                  exact absurd H (by simp)
              · rw [if_neg c10] at H
                have c10b0 : decide (x10_2 < a2) = false := decide_eq_false c10
                clear c10
                simp only [Option.some.injEq, Prod.mk.injEq] at H
                obtain ⟨rfl, rfl, rfl⟩ := H
                go_wp2
                go_ret3
                exact ⟨by first | rfl | (simp; done) | (simp [*]; done), by repeat (first | exact Drawn0.refl _ | apply Drawn0.step)⟩

/-! ### precinctlaw01_WordsGets: function 9 -/
def precinctlaw01_WordsGets.f (k : Nat) (a0 : ByteArray) (a1 : Int) (a2 : Int) : Option (Bool) := (words_Get.f k a0 a1 a2).bind fun bt140 => ((precinctref01_Get.f k a0 a1 a2).bind fun bt143 => ((words_Get.f k (⟨#[5]⟩ : ByteArray) 0 1).bind fun bt146 => (if bt146.1 = 5 then (if bt140.1 = bt143.1 then (if bt140.2.1 = bt143.2.1 then (some (bt140.2.2 == bt143.2.2)) else (some false)) else (some false)) else (some false))))
theorem precinctlaw01_WordsGets.mono : ∀ a0 a1 a2 k, LeO (precinctlaw01_WordsGets.f k a0 a1 a2) (precinctlaw01_WordsGets.f (k + 1) a0 a1 a2) := by
  intro a0 a1 a2 k
  unfold precinctlaw01_WordsGets.f
  repeat' first
      | (with_reducible exact precinctref01_Get.mono _ _ _ _)
      | (with_reducible exact words_Get.mono _ _ _ _)
      | (with_reducible exact LeO.refl _)
      | (with_reducible exact LeO.none _)
      | (with_reducible refine LeO.ite ?_ ?_)
      | (with_reducible refine LeO.bind ?_ (fun _ => ?_))
      | exact precinctref01_Get.mono _ _ _ _
      | exact words_Get.mono _ _ _ _
      | exact LeO.none _
      | refine LeO.ite ?_ ?_
      | refine LeO.bind ?_ (fun _ => ?_)
set_option maxHeartbeats 8000000 in
set_option maxRecDepth 100000 in
theorem precinctlaw01_WordsGets.calls (k : Nat) (a0 : ByteArray) (a1 : Int) (a2 : Int) (r : Bool) (w : World) (hT_ : Aside0 (r = true)) (h : precinctlaw01_WordsGets.f k a0 a1 a2 = some r) :
    Calls Try.prog 9 #[.string a0, .int .i64 a1, .int .i64 a2] w fun e w' => e = .returned (.bool r) ∧ Drawn0 w w' := by
  have H : ((words_Get.f k a0 a1 a2).bind fun bt140 => ((precinctref01_Get.f k a0 a1 a2).bind fun bt143 => ((words_Get.f k (⟨#[5]⟩ : ByteArray) 0 1).bind fun bt146 => (if bt146.1 = 5 then (if bt140.1 = bt143.1 then (if bt140.2.1 = bt143.2.1 then (some (bt140.2.2 == bt143.2.2)) else (some false)) else (some false)) else (some false))))) = some r := h
  clear h
  replace H := Option.bind_eq_some_iff.mp H
  obtain ⟨⟨t140, t141, t142⟩, A40, H⟩ := H
  replace H : ((precinctref01_Get.f k a0 a1 a2).bind fun bt143 => ((words_Get.f k (⟨#[5]⟩ : ByteArray) 0 1).bind fun bt146 => (if bt146.1 = 5 then (if t140 = bt143.1 then (if t141 = bt143.2.1 then (some (t142 == bt143.2.2)) else (some false)) else (some false)) else (some false)))) = some r := H
  have A4 := Aside0.mk A40
  clear A40
  replace H := Option.bind_eq_some_iff.mp H
  obtain ⟨⟨t143, t144, t145⟩, A50, H⟩ := H
  replace H : ((words_Get.f k (⟨#[5]⟩ : ByteArray) 0 1).bind fun bt146 => (if bt146.1 = 5 then (if t140 = t143 then (if t141 = t144 then (some (t142 == t145)) else (some false)) else (some false)) else (some false))) = some r := H
  have A5 := Aside0.mk A50
  clear A50
  replace H := Option.bind_eq_some_iff.mp H
  obtain ⟨⟨t146, t147, t148⟩, A60, H⟩ := H
  replace H : (if t146 = 5 then (if t140 = t143 then (if t141 = t144 then (some (t142 == t145)) else (some false)) else (some false)) else (some false)) = some r := H
  have A6 := Aside0.mk A60
  clear A60
  by_cases c7 : t146 = 5
  · rw [if_pos c7] at H
    have c7b0 : (t146 == 5) = true := beq_iff_eq.mpr c7
    have c7b1 : (t146 != 5) = false := bne_eq_false_iff_eq.mpr c7
    clear c7
    by_cases c8 : t140 = t143
    · rw [if_pos c8] at H
      have c8b0 : (t140 == t143) = true := beq_iff_eq.mpr c8
      have c8b1 : (t140 != t143) = false := bne_eq_false_iff_eq.mpr c8
      clear c8
      by_cases c9 : t141 = t144
      · rw [if_pos c9] at H
        have c9b0 : (t141 == t144) = true := beq_iff_eq.mpr c9
        have c9b1 : (t141 != t144) = false := bne_eq_false_iff_eq.mpr c9
        clear c9
        obtain rfl := Option.some.inj H
        go_enter Try.func9, Try.ntmps9
        go_wp2_with (first | ((with_reducible refine gate_callee (f := 31) rfl ?_); refine goesL_ (some 20) rfl rfl Try.func31 (by kernel_rfl) rfl #[.string a0, .int .i64 a1, .int .i64 a2] rfl (by (try simp only [List.map_toArray, List.map_cons, List.map_nil]); first | done | rfl | (simp only [List.length_drop, List.length_take]; rfl)) ?_; (with_reducible refine (words_Get.calls k a0 a1 a2 t140 t141 t142 _ A4.out).mono ?_); rintro e w' ⟨rfl, ⟨nd, rfl⟩⟩; refine ⟨_, rfl, ?_⟩) | ((with_reducible refine gate_callee (f := 32) rfl ?_); refine goesL_ (some 28) rfl rfl Try.func32 (by kernel_rfl) rfl #[.string a0, .int .i64 a1, .int .i64 a2] rfl (by (try simp only [List.map_toArray, List.map_cons, List.map_nil]); first | done | rfl | (simp only [List.length_drop, List.length_take]; rfl)) ?_; (with_reducible refine (precinctref01_Get.calls k a0 a1 a2 t143 t144 t145 _ A5.out).mono ?_); rintro e w' ⟨rfl, ⟨nd, rfl⟩⟩; refine ⟨_, rfl, ?_⟩) | ((with_reducible refine gate_callee (f := 31) rfl ?_); refine goesL_ (some 33) rfl rfl Try.func31 (by kernel_rfl) rfl #[.string (⟨#[5]⟩ : ByteArray), .int .i64 0, .int .i64 1] rfl (by (try simp only [List.map_toArray, List.map_cons, List.map_nil]); first | done | rfl | (simp only [List.length_drop, List.length_take]; rfl)) ?_; (with_reducible refine (words_Get.calls k (⟨#[5]⟩ : ByteArray) 0 1 t146 t147 t148 _ A6.out).mono ?_); rintro e w' ⟨rfl, ⟨nd, rfl⟩⟩; refine ⟨_, rfl, ?_⟩))
        go_ret
        exact ⟨by first | rfl | (simp; done) | (simp [*]; done), by repeat (first | exact Drawn0.refl _ | apply Drawn0.step)⟩
      · rw [if_neg c9] at H
        have c9b0 : (t141 == t144) = false := beq_eq_false_iff_ne.mpr c9
        have c9b1 : (t141 != t144) = true := bne_iff_ne.mpr c9
        exact absurd ((Option.some.inj H).trans hT_.out) (by decide)
    · rw [if_neg c8] at H
      have c8b0 : (t140 == t143) = false := beq_eq_false_iff_ne.mpr c8
      have c8b1 : (t140 != t143) = true := bne_iff_ne.mpr c8
      exact absurd ((Option.some.inj H).trans hT_.out) (by decide)
  · rw [if_neg c7] at H
    have c7b0 : (t146 == 5) = false := beq_eq_false_iff_ne.mpr c7
    have c7b1 : (t146 != 5) = true := bne_iff_ne.mpr c7
    exact absurd ((Option.some.inj H).trans hT_.out) (by decide)

/-- THE ONE PURE STATEMENT of precinctlaw01_WordsGets: yours. -/
def precinctlaw01_WordsGets.Pure : Prop := ∀ (a0 : ByteArray) (a1 : Int) (a2 : Int), a0.size ≤ 140737488351232 → (Lit.int .i64 a1).wf = true → (Lit.int .i64 a2).wf = true → ∃ k, precinctlaw01_WordsGets.f k a0 a1 a2 = some true
theorem precinctlaw01_WordsGets.walk (P : precinctlaw01_WordsGets.Pure) (a0 : ByteArray) (a1 : Int) (a2 : Int) (w : World) (w0 : a0.size ≤ 140737488351232) (w1 : (Lit.int .i64 a1).wf = true) (w2 : (Lit.int .i64 a2).wf = true) :
    Calls Try.prog 9 #[.string a0, .int .i64 a1, .int .i64 a2] w fun e w' => e = .returned (.bool true) ∧ Below w.heap.size w w' := by
  obtain ⟨k, h⟩ := P a0 a1 a2 w0 w1 w2
  refine (precinctlaw01_WordsGets.calls k a0 a1 a2 true w ⟨rfl⟩ h).mono ?_
  rintro e w' ⟨rfl, hd⟩
  exact ⟨rfl, hd.below⟩

/-! ### words_Text: function 33 -/
def words_Text.f (k : Nat) (a0 : ByteArray) : Option (ByteArray × Int) := if (a0.size : Int) > 65535 then (some ((⟨#[]⟩ : ByteArray), 5)) else ((words_Put.f k 2 (IntKind.u64.wrap ((a0.size : Int)))).bind fun t149 => (if t149.size + a0.size ≤ 9223372036854775807 then (some (t149 ++ a0, 0)) else (none)))
theorem words_Text.mono : ∀ a0 k, LeO (words_Text.f k a0) (words_Text.f (k + 1) a0) := by
  intro a0 k
  unfold words_Text.f
  repeat' first
      | (with_reducible exact words_Put.mono _ _ _)
      | (with_reducible exact LeO.refl _)
      | (with_reducible exact LeO.none _)
      | (with_reducible refine LeO.ite ?_ ?_)
      | (with_reducible refine LeO.bind ?_ (fun _ => ?_))
      | exact words_Put.mono _ _ _
      | exact LeO.none _
      | refine LeO.ite ?_ ?_
      | refine LeO.bind ?_ (fun _ => ?_)
set_option maxHeartbeats 8000000 in
set_option maxRecDepth 100000 in
theorem words_Text.calls (k : Nat) (a0 : ByteArray) (r1 : ByteArray) (r2 : Int) (w : World) (h : words_Text.f k a0 = some (r1, r2)) :
    Calls Try.prog 33 #[.string a0] w fun e w' => e = .returned (.tuple #[.string r1, .int .i64 r2]) ∧ Below w.heap.size w w' := by
  have HB := Aside0.mk (Below.refl w.heap.size w)
  have H : (if (a0.size : Int) > 65535 then (some ((⟨#[]⟩ : ByteArray), 5)) else ((words_Put.f k 2 (IntKind.u64.wrap ((a0.size : Int)))).bind fun t149 => (if t149.size + a0.size ≤ 9223372036854775807 then (some (t149 ++ a0, 0)) else (none)))) = some (r1, r2) := h
  clear h
  by_cases c2 : (a0.size : Int) > 65535
  · rw [if_pos c2] at H
    have c2b0 : decide (65535 < (a0.size : Int)) = true := decide_eq_true c2
    have c2b1 : decide (65535 < a0.size) = true := decide_eq_true (by omega)
    clear c2
    simp only [Option.some.injEq, Prod.mk.injEq] at H
    obtain ⟨rfl, rfl⟩ := H
    go_enter Try.func33, Try.ntmps33
    go_wp2
    go_ret2
    exact ⟨by first | rfl | (simp [errW_none, errW_some] <;> rfl) | (simp [*, errW_none, errW_some] <;> rfl), by repeat (first | (with_reducible first | exact HB.out | apply below_alloc | apply pw_below_drewN | apply below_drew1) | exact HB.out)⟩
  · rw [if_neg c2] at H
    have c2b0 : decide (65535 < (a0.size : Int)) = false := decide_eq_false c2
    have c2b1 : decide (65535 < a0.size) = false := decide_eq_false (by omega)
    clear c2
    replace H := Option.bind_eq_some_iff.mp H
    obtain ⟨t149, A30, H⟩ := H
    replace H : (if t149.size + a0.size ≤ 9223372036854775807 then (some (t149 ++ a0, 0)) else (none)) = some (r1, r2) := H
    have A3 := Aside0.mk A30
    clear A30
    have hw_ : IntKind.u64.wrap ((a0.size : Int)) = (a0.size : Int) := by have hg_ := of_decide_eq_false c2b0; simp [IntKind.wrap, IntKind.bits, IntKind.signed]; omega
    rw [hw_] at A3
    clear hw_
    by_cases c4 : t149.size + a0.size ≤ 9223372036854775807
    · rw [if_pos c4] at H
      have c4b0 := eq_true c4
      have c4b1 : decide (t149.size + a0.size ≤ 9223372036854775807) = true := decide_eq_true c4
      try have c4b2 : (9223372036854775807 < t149.size + a0.size) = False := eq_false (Nat.not_lt.2 c4)
      simp only [Option.some.injEq, Prod.mk.injEq] at H
      obtain ⟨rfl, rfl⟩ := H
      go_enter Try.func33, Try.ntmps33
      go_wp2_with (first | ((with_reducible refine gate_callee (f := 25) rfl ?_); refine goesL_ (some 10) rfl rfl Try.func25 (by kernel_rfl) rfl #[.int .i64 2, .int .u64 ((a0.size : Int))] rfl (by (try simp only [List.map_toArray, List.map_cons, List.map_nil]); first | done | rfl | (simp only [List.length_drop, List.length_take]; rfl)) ?_; (with_reducible refine (words_Put.calls k 2 ((a0.size : Int)) t149 _ A3.out).mono ?_); rintro e w5 ⟨rfl, hb⟩; refine ⟨_, rfl, ?_⟩; have n0_ := Aside0.mk (below_step (by repeat (first | (with_reducible first | exact HB.out | apply below_alloc | apply pw_below_drewN | apply below_drew1) | exact HB.out)) hb); clear HB; have HB := n0_; clear n0_; (try clear hb); (try clear hb2); (try clear hk); (try clear hi)))
      go_ret2
      exact ⟨by first | rfl | (simp [errW_none, errW_some] <;> rfl) | (simp [*, errW_none, errW_some] <;> rfl), by repeat (first | (with_reducible first | exact HB.out | apply below_alloc | apply pw_below_drewN | apply below_drew1) | exact HB.out)⟩
    · rw [if_neg c4] at H
      exact absurd H (by simp)

/-! ### precinctref01_Text: function 34 -/
def precinctref01_Text.f (k : Nat) (a0 : ByteArray) : Option (ByteArray × Int) := if (a0.size : Int) > 65535 then (some ((⟨#[]⟩ : ByteArray), 5)) else ((precinctref01_Put.f k 2 (IntKind.u64.wrap ((a0.size : Int)))).bind fun t150 => (if t150.size + a0.size ≤ 9223372036854775807 then (some (t150 ++ a0, 0)) else (none)))
theorem precinctref01_Text.mono : ∀ a0 k, LeO (precinctref01_Text.f k a0) (precinctref01_Text.f (k + 1) a0) := by
  intro a0 k
  unfold precinctref01_Text.f
  repeat' first
      | (with_reducible exact precinctref01_Put.mono _ _ _)
      | (with_reducible exact LeO.refl _)
      | (with_reducible exact LeO.none _)
      | (with_reducible refine LeO.ite ?_ ?_)
      | (with_reducible refine LeO.bind ?_ (fun _ => ?_))
      | exact precinctref01_Put.mono _ _ _
      | exact LeO.none _
      | refine LeO.ite ?_ ?_
      | refine LeO.bind ?_ (fun _ => ?_)
set_option maxHeartbeats 8000000 in
set_option maxRecDepth 100000 in
theorem precinctref01_Text.calls (k : Nat) (a0 : ByteArray) (r1 : ByteArray) (r2 : Int) (w : World) (h : precinctref01_Text.f k a0 = some (r1, r2)) :
    Calls Try.prog 34 #[.string a0] w fun e w' => e = .returned (.tuple #[.string r1, .int .i64 r2]) ∧ Below w.heap.size w w' := by
  have HB := Aside0.mk (Below.refl w.heap.size w)
  have H : (if (a0.size : Int) > 65535 then (some ((⟨#[]⟩ : ByteArray), 5)) else ((precinctref01_Put.f k 2 (IntKind.u64.wrap ((a0.size : Int)))).bind fun t150 => (if t150.size + a0.size ≤ 9223372036854775807 then (some (t150 ++ a0, 0)) else (none)))) = some (r1, r2) := h
  clear h
  by_cases c2 : (a0.size : Int) > 65535
  · rw [if_pos c2] at H
    have c2b0 : decide (65535 < (a0.size : Int)) = true := decide_eq_true c2
    have c2b1 : decide (65535 < a0.size) = true := decide_eq_true (by omega)
    clear c2
    simp only [Option.some.injEq, Prod.mk.injEq] at H
    obtain ⟨rfl, rfl⟩ := H
    go_enter Try.func34, Try.ntmps34
    go_wp2
    go_ret2
    exact ⟨by first | rfl | (simp [errW_none, errW_some] <;> rfl) | (simp [*, errW_none, errW_some] <;> rfl), by repeat (first | (with_reducible first | exact HB.out | apply below_alloc | apply pw_below_drewN | apply below_drew1) | exact HB.out)⟩
  · rw [if_neg c2] at H
    have c2b0 : decide (65535 < (a0.size : Int)) = false := decide_eq_false c2
    have c2b1 : decide (65535 < a0.size) = false := decide_eq_false (by omega)
    clear c2
    replace H := Option.bind_eq_some_iff.mp H
    obtain ⟨t150, A30, H⟩ := H
    replace H : (if t150.size + a0.size ≤ 9223372036854775807 then (some (t150 ++ a0, 0)) else (none)) = some (r1, r2) := H
    have A3 := Aside0.mk A30
    clear A30
    have hw_ : IntKind.u64.wrap ((a0.size : Int)) = (a0.size : Int) := by have hg_ := of_decide_eq_false c2b0; simp [IntKind.wrap, IntKind.bits, IntKind.signed]; omega
    rw [hw_] at A3
    clear hw_
    by_cases c4 : t150.size + a0.size ≤ 9223372036854775807
    · rw [if_pos c4] at H
      have c4b0 := eq_true c4
      have c4b1 : decide (t150.size + a0.size ≤ 9223372036854775807) = true := decide_eq_true c4
      try have c4b2 : (9223372036854775807 < t150.size + a0.size) = False := eq_false (Nat.not_lt.2 c4)
      simp only [Option.some.injEq, Prod.mk.injEq] at H
      obtain ⟨rfl, rfl⟩ := H
      go_enter Try.func34, Try.ntmps34
      go_wp2_with (first | ((with_reducible refine gate_callee (f := 26) rfl ?_); refine goesL_ (some 11) rfl rfl Try.func26 (by kernel_rfl) rfl #[.int .i64 2, .int .u64 ((a0.size : Int))] rfl (by (try simp only [List.map_toArray, List.map_cons, List.map_nil]); first | done | rfl | (simp only [List.length_drop, List.length_take]; rfl)) ?_; (with_reducible refine (precinctref01_Put.calls k 2 ((a0.size : Int)) t150 _ A3.out).mono ?_); rintro e w5 ⟨rfl, hb⟩; refine ⟨_, rfl, ?_⟩; have n0_ := Aside0.mk (below_step (by repeat (first | (with_reducible first | exact HB.out | apply below_alloc | apply pw_below_drewN | apply below_drew1) | exact HB.out)) hb); clear HB; have HB := n0_; clear n0_; (try clear hb); (try clear hb2); (try clear hk); (try clear hi)))
      go_ret2
      exact ⟨by first | rfl | (simp [errW_none, errW_some] <;> rfl) | (simp [*, errW_none, errW_some] <;> rfl), by repeat (first | (with_reducible first | exact HB.out | apply below_alloc | apply pw_below_drewN | apply below_drew1) | exact HB.out)⟩
    · rw [if_neg c4] at H
      exact absurd H (by simp)

/-! ### words_GetText: function 35 -/
def words_GetText.f (k : Nat) (a0 : ByteArray) (a1 : Int) : Option (ByteArray × Int × Int) := (words_Get.f k a0 a1 2).bind fun bt151 => (if bt151.2.2 = 0 then (if (IntKind.u64.wrap (wrap64 ((a0.size : Int) - bt151.2.1))) < bt151.1 then (some ((⟨#[]⟩ : ByteArray), 0, 3)) else (if 0 ≤ bt151.2.1 then (if bt151.2.1 ≤ (wrap64 (bt151.2.1 + (wrap64 (bt151.1)))) then (if (wrap64 (bt151.2.1 + (wrap64 (bt151.1)))) ≤ (a0.size : Int) then (some (a0.extract (bt151.2.1 : Int).toNat ((wrap64 (bt151.2.1 + (wrap64 (bt151.1)))) : Int).toNat, wrap64 (bt151.2.1 + (wrap64 (bt151.1))), 0)) else (none)) else (none)) else (none))) else (some ((⟨#[]⟩ : ByteArray), 0, bt151.2.2)))
theorem words_GetText.mono : ∀ a0 a1 k, LeO (words_GetText.f k a0 a1) (words_GetText.f (k + 1) a0 a1) := by
  intro a0 a1 k
  unfold words_GetText.f
  repeat' first
      | (with_reducible exact words_Get.mono _ _ _ _)
      | (with_reducible exact LeO.refl _)
      | (with_reducible exact LeO.none _)
      | (with_reducible refine LeO.ite ?_ ?_)
      | (with_reducible refine LeO.bind ?_ (fun _ => ?_))
      | exact words_Get.mono _ _ _ _
      | exact LeO.none _
      | refine LeO.ite ?_ ?_
      | refine LeO.bind ?_ (fun _ => ?_)
set_option maxHeartbeats 8000000 in
set_option maxRecDepth 100000 in
theorem words_GetText.calls (k : Nat) (a0 : ByteArray) (a1 : Int) (r1 : ByteArray) (r2 : Int) (r3 : Int) (w : World) (h : words_GetText.f k a0 a1 = some (r1, r2, r3)) :
    Calls Try.prog 35 #[.string a0, .int .i64 a1] w fun e w' => e = .returned (.tuple #[.string r1, .int .i64 r2, .int .i64 r3]) ∧ Drawn0 w w' := by
  have H : ((words_Get.f k a0 a1 2).bind fun bt151 => (if bt151.2.2 = 0 then (if (IntKind.u64.wrap (wrap64 ((a0.size : Int) - bt151.2.1))) < bt151.1 then (some ((⟨#[]⟩ : ByteArray), 0, 3)) else (if 0 ≤ bt151.2.1 then (if bt151.2.1 ≤ (wrap64 (bt151.2.1 + (wrap64 (bt151.1)))) then (if (wrap64 (bt151.2.1 + (wrap64 (bt151.1)))) ≤ (a0.size : Int) then (some (a0.extract (bt151.2.1 : Int).toNat ((wrap64 (bt151.2.1 + (wrap64 (bt151.1)))) : Int).toNat, wrap64 (bt151.2.1 + (wrap64 (bt151.1))), 0)) else (none)) else (none)) else (none))) else (some ((⟨#[]⟩ : ByteArray), 0, bt151.2.2)))) = some (r1, r2, r3) := h
  clear h
  replace H := Option.bind_eq_some_iff.mp H
  obtain ⟨⟨t151, t152, t153⟩, A30, H⟩ := H
  replace H : (if t153 = 0 then (if (IntKind.u64.wrap (wrap64 ((a0.size : Int) - t152))) < t151 then (some ((⟨#[]⟩ : ByteArray), 0, 3)) else (if 0 ≤ t152 then (if t152 ≤ (wrap64 (t152 + (wrap64 (t151)))) then (if (wrap64 (t152 + (wrap64 (t151)))) ≤ (a0.size : Int) then (some (a0.extract (t152 : Int).toNat ((wrap64 (t152 + (wrap64 (t151)))) : Int).toNat, wrap64 (t152 + (wrap64 (t151))), 0)) else (none)) else (none)) else (none))) else (some ((⟨#[]⟩ : ByteArray), 0, t153))) = some (r1, r2, r3) := H
  have A3 := Aside0.mk A30
  clear A30
  by_cases c4 : t153 = 0
  · rw [if_pos c4] at H
    have c4b0 : (t153 == 0) = true := beq_iff_eq.mpr c4
    have c4b1 : (t153 != 0) = false := bne_eq_false_iff_eq.mpr c4
    clear c4
    by_cases c5 : (IntKind.u64.wrap (wrap64 ((a0.size : Int) - t152))) < t151
    · rw [if_pos c5] at H
      have c5b0 : decide ((IntKind.u64.wrap (wrap64 ((a0.size : Int) - t152))) < t151) = true := decide_eq_true c5
      clear c5
      simp only [Option.some.injEq, Prod.mk.injEq] at H
      obtain ⟨rfl, rfl, rfl⟩ := H
      go_enter Try.func35, Try.ntmps35
      go_wp2_with (first | ((with_reducible refine gate_callee (f := 31) rfl ?_); refine goesL_ (some 13) rfl rfl Try.func31 (by kernel_rfl) rfl #[.string a0, .int .i64 a1, .int .i64 2] rfl (by (try simp only [List.map_toArray, List.map_cons, List.map_nil]); first | done | rfl | (simp only [List.length_drop, List.length_take]; rfl)) ?_; (with_reducible refine (words_Get.calls k a0 a1 2 t151 t152 t153 _ A3.out).mono ?_); rintro e w' ⟨rfl, ⟨nd, rfl⟩⟩; refine ⟨_, rfl, ?_⟩))
      go_ret3
      exact ⟨by first | rfl | (simp; done) | (simp [*]; done), by repeat (first | exact Drawn0.refl _ | apply Drawn0.step)⟩
    · rw [if_neg c5] at H
      have c5b0 : decide ((IntKind.u64.wrap (wrap64 ((a0.size : Int) - t152))) < t151) = false := decide_eq_false c5
      clear c5
      by_cases c6 : 0 ≤ t152
      · rw [if_pos c6] at H
        have c6b0 := eq_true c6
        have c6b1 : decide (0 ≤ t152) = true := decide_eq_true c6
        clear c6
        by_cases c7 : t152 ≤ (wrap64 (t152 + (wrap64 (t151))))
        · rw [if_pos c7] at H
          have c7b0 := eq_true c7
          have c7b1 : decide (t152 ≤ (wrap64 (t152 + (wrap64 (t151))))) = true := decide_eq_true c7
          by_cases c8 : (wrap64 (t152 + (wrap64 (t151)))) ≤ (a0.size : Int)
          · rw [if_pos c8] at H
            have c8b0 := eq_true c8
            have c8b1 : decide ((wrap64 (t152 + (wrap64 (t151)))) ≤ (a0.size : Int)) = true := decide_eq_true c8
            simp only [Option.some.injEq, Prod.mk.injEq] at H
            obtain ⟨rfl, rfl, rfl⟩ := H
            go_enter Try.func35, Try.ntmps35
            go_wp2_with (first | ((with_reducible refine gate_callee (f := 31) rfl ?_); refine goesL_ (some 13) rfl rfl Try.func31 (by kernel_rfl) rfl #[.string a0, .int .i64 a1, .int .i64 2] rfl (by (try simp only [List.map_toArray, List.map_cons, List.map_nil]); first | done | rfl | (simp only [List.length_drop, List.length_take]; rfl)) ?_; (with_reducible refine (words_Get.calls k a0 a1 2 t151 t152 t153 _ A3.out).mono ?_); rintro e w' ⟨rfl, ⟨nd, rfl⟩⟩; refine ⟨_, rfl, ?_⟩))
            go_ret3
            exact ⟨by first | rfl | (simp; done) | (simp [*]; done), by repeat (first | exact Drawn0.refl _ | apply Drawn0.step)⟩
          · rw [if_neg c8] at H
            exact absurd H (by simp)
        · rw [if_neg c7] at H
          exact absurd H (by simp)
      · rw [if_neg c6] at H
        exact absurd H (by simp)
  · rw [if_neg c4] at H
    have c4b0 : (t153 == 0) = false := beq_eq_false_iff_ne.mpr c4
    have c4b1 : (t153 != 0) = true := bne_iff_ne.mpr c4
    simp only [Option.some.injEq, Prod.mk.injEq] at H
    obtain ⟨rfl, rfl, rfl⟩ := H
    go_enter Try.func35, Try.ntmps35
    go_wp2_with (first | ((with_reducible refine gate_callee (f := 31) rfl ?_); refine goesL_ (some 13) rfl rfl Try.func31 (by kernel_rfl) rfl #[.string a0, .int .i64 a1, .int .i64 2] rfl (by (try simp only [List.map_toArray, List.map_cons, List.map_nil]); first | done | rfl | (simp only [List.length_drop, List.length_take]; rfl)) ?_; (with_reducible refine (words_Get.calls k a0 a1 2 t151 t152 t153 _ A3.out).mono ?_); rintro e w' ⟨rfl, ⟨nd, rfl⟩⟩; refine ⟨_, rfl, ?_⟩))
    go_ret3
    exact ⟨by first | rfl | (simp; done) | (simp [*]; done), by repeat (first | exact Drawn0.refl _ | apply Drawn0.step)⟩

/-! ### precinctref01_GetText: function 36 -/
def precinctref01_GetText.f (k : Nat) (a0 : ByteArray) (a1 : Int) : Option (ByteArray × Int × Int) := (precinctref01_Get.f k a0 a1 2).bind fun bt154 => (if bt154.2.2 = 0 then (if (wrap64 (bt154.1)) > (wrap64 ((a0.size : Int) - bt154.2.1)) then (some ((⟨#[]⟩ : ByteArray), 0, 3)) else (if 0 ≤ bt154.2.1 then (if bt154.2.1 ≤ (wrap64 (bt154.2.1 + (wrap64 (bt154.1)))) then (if (wrap64 (bt154.2.1 + (wrap64 (bt154.1)))) ≤ (a0.size : Int) then (some (a0.extract (bt154.2.1 : Int).toNat ((wrap64 (bt154.2.1 + (wrap64 (bt154.1)))) : Int).toNat, wrap64 (bt154.2.1 + (wrap64 (bt154.1))), 0)) else (none)) else (none)) else (none))) else (some ((⟨#[]⟩ : ByteArray), 0, bt154.2.2)))
theorem precinctref01_GetText.mono : ∀ a0 a1 k, LeO (precinctref01_GetText.f k a0 a1) (precinctref01_GetText.f (k + 1) a0 a1) := by
  intro a0 a1 k
  unfold precinctref01_GetText.f
  repeat' first
      | (with_reducible exact precinctref01_Get.mono _ _ _ _)
      | (with_reducible exact LeO.refl _)
      | (with_reducible exact LeO.none _)
      | (with_reducible refine LeO.ite ?_ ?_)
      | (with_reducible refine LeO.bind ?_ (fun _ => ?_))
      | exact precinctref01_Get.mono _ _ _ _
      | exact LeO.none _
      | refine LeO.ite ?_ ?_
      | refine LeO.bind ?_ (fun _ => ?_)
set_option maxHeartbeats 8000000 in
set_option maxRecDepth 100000 in
theorem precinctref01_GetText.calls (k : Nat) (a0 : ByteArray) (a1 : Int) (r1 : ByteArray) (r2 : Int) (r3 : Int) (w : World) (h : precinctref01_GetText.f k a0 a1 = some (r1, r2, r3)) :
    Calls Try.prog 36 #[.string a0, .int .i64 a1] w fun e w' => e = .returned (.tuple #[.string r1, .int .i64 r2, .int .i64 r3]) ∧ Drawn0 w w' := by
  have H : ((precinctref01_Get.f k a0 a1 2).bind fun bt154 => (if bt154.2.2 = 0 then (if (wrap64 (bt154.1)) > (wrap64 ((a0.size : Int) - bt154.2.1)) then (some ((⟨#[]⟩ : ByteArray), 0, 3)) else (if 0 ≤ bt154.2.1 then (if bt154.2.1 ≤ (wrap64 (bt154.2.1 + (wrap64 (bt154.1)))) then (if (wrap64 (bt154.2.1 + (wrap64 (bt154.1)))) ≤ (a0.size : Int) then (some (a0.extract (bt154.2.1 : Int).toNat ((wrap64 (bt154.2.1 + (wrap64 (bt154.1)))) : Int).toNat, wrap64 (bt154.2.1 + (wrap64 (bt154.1))), 0)) else (none)) else (none)) else (none))) else (some ((⟨#[]⟩ : ByteArray), 0, bt154.2.2)))) = some (r1, r2, r3) := h
  clear h
  replace H := Option.bind_eq_some_iff.mp H
  obtain ⟨⟨t154, t155, t156⟩, A30, H⟩ := H
  replace H : (if t156 = 0 then (if (wrap64 (t154)) > (wrap64 ((a0.size : Int) - t155)) then (some ((⟨#[]⟩ : ByteArray), 0, 3)) else (if 0 ≤ t155 then (if t155 ≤ (wrap64 (t155 + (wrap64 (t154)))) then (if (wrap64 (t155 + (wrap64 (t154)))) ≤ (a0.size : Int) then (some (a0.extract (t155 : Int).toNat ((wrap64 (t155 + (wrap64 (t154)))) : Int).toNat, wrap64 (t155 + (wrap64 (t154))), 0)) else (none)) else (none)) else (none))) else (some ((⟨#[]⟩ : ByteArray), 0, t156))) = some (r1, r2, r3) := H
  have A3 := Aside0.mk A30
  clear A30
  by_cases c4 : t156 = 0
  · rw [if_pos c4] at H
    have c4b0 : (t156 == 0) = true := beq_iff_eq.mpr c4
    have c4b1 : (t156 != 0) = false := bne_eq_false_iff_eq.mpr c4
    clear c4
    by_cases c5 : (wrap64 (t154)) > (wrap64 ((a0.size : Int) - t155))
    · rw [if_pos c5] at H
      have c5b0 : decide ((wrap64 ((a0.size : Int) - t155)) < (wrap64 (t154))) = true := decide_eq_true c5
      clear c5
      simp only [Option.some.injEq, Prod.mk.injEq] at H
      obtain ⟨rfl, rfl, rfl⟩ := H
      go_enter Try.func36, Try.ntmps36
      go_wp2_with (first | ((with_reducible refine gate_callee (f := 32) rfl ?_); refine goesL_ (some 13) rfl rfl Try.func32 (by kernel_rfl) rfl #[.string a0, .int .i64 a1, .int .i64 2] rfl (by (try simp only [List.map_toArray, List.map_cons, List.map_nil]); first | done | rfl | (simp only [List.length_drop, List.length_take]; rfl)) ?_; (with_reducible refine (precinctref01_Get.calls k a0 a1 2 t154 t155 t156 _ A3.out).mono ?_); rintro e w' ⟨rfl, ⟨nd, rfl⟩⟩; refine ⟨_, rfl, ?_⟩))
      go_ret3
      exact ⟨by first | rfl | (simp; done) | (simp [*]; done), by repeat (first | exact Drawn0.refl _ | apply Drawn0.step)⟩
    · rw [if_neg c5] at H
      have c5b0 : decide ((wrap64 ((a0.size : Int) - t155)) < (wrap64 (t154))) = false := decide_eq_false c5
      clear c5
      by_cases c6 : 0 ≤ t155
      · rw [if_pos c6] at H
        have c6b0 := eq_true c6
        have c6b1 : decide (0 ≤ t155) = true := decide_eq_true c6
        clear c6
        by_cases c7 : t155 ≤ (wrap64 (t155 + (wrap64 (t154))))
        · rw [if_pos c7] at H
          have c7b0 := eq_true c7
          have c7b1 : decide (t155 ≤ (wrap64 (t155 + (wrap64 (t154))))) = true := decide_eq_true c7
          by_cases c8 : (wrap64 (t155 + (wrap64 (t154)))) ≤ (a0.size : Int)
          · rw [if_pos c8] at H
            have c8b0 := eq_true c8
            have c8b1 : decide ((wrap64 (t155 + (wrap64 (t154)))) ≤ (a0.size : Int)) = true := decide_eq_true c8
            simp only [Option.some.injEq, Prod.mk.injEq] at H
            obtain ⟨rfl, rfl, rfl⟩ := H
            go_enter Try.func36, Try.ntmps36
            go_wp2_with (first | ((with_reducible refine gate_callee (f := 32) rfl ?_); refine goesL_ (some 13) rfl rfl Try.func32 (by kernel_rfl) rfl #[.string a0, .int .i64 a1, .int .i64 2] rfl (by (try simp only [List.map_toArray, List.map_cons, List.map_nil]); first | done | rfl | (simp only [List.length_drop, List.length_take]; rfl)) ?_; (with_reducible refine (precinctref01_Get.calls k a0 a1 2 t154 t155 t156 _ A3.out).mono ?_); rintro e w' ⟨rfl, ⟨nd, rfl⟩⟩; refine ⟨_, rfl, ?_⟩))
            go_ret3
            exact ⟨by first | rfl | (simp; done) | (simp [*]; done), by repeat (first | exact Drawn0.refl _ | apply Drawn0.step)⟩
          · rw [if_neg c8] at H
            exact absurd H (by simp)
        · rw [if_neg c7] at H
          exact absurd H (by simp)
      · rw [if_neg c6] at H
        exact absurd H (by simp)
  · rw [if_neg c4] at H
    have c4b0 : (t156 == 0) = false := beq_eq_false_iff_ne.mpr c4
    have c4b1 : (t156 != 0) = true := bne_iff_ne.mpr c4
    simp only [Option.some.injEq, Prod.mk.injEq] at H
    obtain ⟨rfl, rfl, rfl⟩ := H
    go_enter Try.func36, Try.ntmps36
    go_wp2_with (first | ((with_reducible refine gate_callee (f := 32) rfl ?_); refine goesL_ (some 13) rfl rfl Try.func32 (by kernel_rfl) rfl #[.string a0, .int .i64 a1, .int .i64 2] rfl (by (try simp only [List.map_toArray, List.map_cons, List.map_nil]); first | done | rfl | (simp only [List.length_drop, List.length_take]; rfl)) ?_; (with_reducible refine (precinctref01_Get.calls k a0 a1 2 t154 t155 t156 _ A3.out).mono ?_); rintro e w' ⟨rfl, ⟨nd, rfl⟩⟩; refine ⟨_, rfl, ?_⟩))
    go_ret3
    exact ⟨by first | rfl | (simp; done) | (simp [*]; done), by repeat (first | exact Drawn0.refl _ | apply Drawn0.step)⟩

/-! ### precinctlaw01_WordsTexts: function 10 -/
def precinctlaw01_WordsTexts.f (k : Nat) (a0 : ByteArray) (a1 : ByteArray) (a2 : Int) : Option (Bool) := (words_Text.f k a0).bind fun bt157 => ((precinctref01_Text.f k a0).bind fun bt159 => ((words_GetText.f k a1 a2).bind fun bt161 => ((precinctref01_GetText.f k a1 a2).bind fun bt164 => ((words_Text.f k (⟨#[120]⟩ : ByteArray)).bind fun bt167 => (if bt167.1.toList = ([0, 1, 120] : List UInt8) then (if bt157.1.toList = bt159.1.toList then (if bt157.2 = bt159.2 then (if bt161.1.toList = bt164.1.toList then (if bt161.2.1 = bt164.2.1 then (some (bt161.2.2 == bt164.2.2)) else (some false)) else (some false)) else (some false)) else (some false)) else (some false))))))
theorem precinctlaw01_WordsTexts.mono : ∀ a0 a1 a2 k, LeO (precinctlaw01_WordsTexts.f k a0 a1 a2) (precinctlaw01_WordsTexts.f (k + 1) a0 a1 a2) := by
  intro a0 a1 a2 k
  unfold precinctlaw01_WordsTexts.f
  repeat' first
      | (with_reducible exact precinctref01_GetText.mono _ _ _)
      | (with_reducible exact precinctref01_Text.mono _ _)
      | (with_reducible exact words_GetText.mono _ _ _)
      | (with_reducible exact words_Text.mono _ _)
      | (with_reducible exact LeO.refl _)
      | (with_reducible exact LeO.none _)
      | (with_reducible refine LeO.ite ?_ ?_)
      | (with_reducible refine LeO.bind ?_ (fun _ => ?_))
      | exact precinctref01_GetText.mono _ _ _
      | exact precinctref01_Text.mono _ _
      | exact words_GetText.mono _ _ _
      | exact words_Text.mono _ _
      | exact LeO.none _
      | refine LeO.ite ?_ ?_
      | refine LeO.bind ?_ (fun _ => ?_)
set_option maxHeartbeats 8000000 in
set_option maxRecDepth 100000 in
theorem precinctlaw01_WordsTexts.calls (k : Nat) (a0 : ByteArray) (a1 : ByteArray) (a2 : Int) (r : Bool) (w : World) (hT_ : Aside0 (r = true)) (h : precinctlaw01_WordsTexts.f k a0 a1 a2 = some r) :
    Calls Try.prog 10 #[.string a0, .string a1, .int .i64 a2] w fun e w' => e = .returned (.bool r) ∧ Below w.heap.size w w' := by
  have HB := Aside0.mk (Below.refl w.heap.size w)
  have H : ((words_Text.f k a0).bind fun bt157 => ((precinctref01_Text.f k a0).bind fun bt159 => ((words_GetText.f k a1 a2).bind fun bt161 => ((precinctref01_GetText.f k a1 a2).bind fun bt164 => ((words_Text.f k (⟨#[120]⟩ : ByteArray)).bind fun bt167 => (if bt167.1.toList = ([0, 1, 120] : List UInt8) then (if bt157.1.toList = bt159.1.toList then (if bt157.2 = bt159.2 then (if bt161.1.toList = bt164.1.toList then (if bt161.2.1 = bt164.2.1 then (some (bt161.2.2 == bt164.2.2)) else (some false)) else (some false)) else (some false)) else (some false)) else (some false))))))) = some r := h
  clear h
  replace H := Option.bind_eq_some_iff.mp H
  obtain ⟨⟨t157, t158⟩, A40, H⟩ := H
  replace H : ((precinctref01_Text.f k a0).bind fun bt159 => ((words_GetText.f k a1 a2).bind fun bt161 => ((precinctref01_GetText.f k a1 a2).bind fun bt164 => ((words_Text.f k (⟨#[120]⟩ : ByteArray)).bind fun bt167 => (if bt167.1.toList = ([0, 1, 120] : List UInt8) then (if t157.toList = bt159.1.toList then (if t158 = bt159.2 then (if bt161.1.toList = bt164.1.toList then (if bt161.2.1 = bt164.2.1 then (some (bt161.2.2 == bt164.2.2)) else (some false)) else (some false)) else (some false)) else (some false)) else (some false)))))) = some r := H
  have A4 := Aside0.mk A40
  clear A40
  replace H := Option.bind_eq_some_iff.mp H
  obtain ⟨⟨t159, t160⟩, A50, H⟩ := H
  replace H : ((words_GetText.f k a1 a2).bind fun bt161 => ((precinctref01_GetText.f k a1 a2).bind fun bt164 => ((words_Text.f k (⟨#[120]⟩ : ByteArray)).bind fun bt167 => (if bt167.1.toList = ([0, 1, 120] : List UInt8) then (if t157.toList = t159.toList then (if t158 = t160 then (if bt161.1.toList = bt164.1.toList then (if bt161.2.1 = bt164.2.1 then (some (bt161.2.2 == bt164.2.2)) else (some false)) else (some false)) else (some false)) else (some false)) else (some false))))) = some r := H
  have A5 := Aside0.mk A50
  clear A50
  replace H := Option.bind_eq_some_iff.mp H
  obtain ⟨⟨t161, t162, t163⟩, A60, H⟩ := H
  replace H : ((precinctref01_GetText.f k a1 a2).bind fun bt164 => ((words_Text.f k (⟨#[120]⟩ : ByteArray)).bind fun bt167 => (if bt167.1.toList = ([0, 1, 120] : List UInt8) then (if t157.toList = t159.toList then (if t158 = t160 then (if t161.toList = bt164.1.toList then (if t162 = bt164.2.1 then (some (t163 == bt164.2.2)) else (some false)) else (some false)) else (some false)) else (some false)) else (some false)))) = some r := H
  have A6 := Aside0.mk A60
  clear A60
  replace H := Option.bind_eq_some_iff.mp H
  obtain ⟨⟨t164, t165, t166⟩, A70, H⟩ := H
  replace H : ((words_Text.f k (⟨#[120]⟩ : ByteArray)).bind fun bt167 => (if bt167.1.toList = ([0, 1, 120] : List UInt8) then (if t157.toList = t159.toList then (if t158 = t160 then (if t161.toList = t164.toList then (if t162 = t165 then (some (t163 == t166)) else (some false)) else (some false)) else (some false)) else (some false)) else (some false))) = some r := H
  have A7 := Aside0.mk A70
  clear A70
  replace H := Option.bind_eq_some_iff.mp H
  obtain ⟨⟨t167, t168⟩, A80, H⟩ := H
  replace H : (if t167.toList = ([0, 1, 120] : List UInt8) then (if t157.toList = t159.toList then (if t158 = t160 then (if t161.toList = t164.toList then (if t162 = t165 then (some (t163 == t166)) else (some false)) else (some false)) else (some false)) else (some false)) else (some false)) = some r := H
  have A8 := Aside0.mk A80
  clear A80
  by_cases c9 : t167.toList = ([0, 1, 120] : List UInt8)
  · rw [if_pos c9] at H
    have c9b0 : (t167.toList == ([0, 1, 120] : List UInt8)) = true := beq_iff_eq.mpr c9
    have c9b1 : (t167.toList != ([0, 1, 120] : List UInt8)) = false := bne_eq_false_iff_eq.mpr c9
    clear c9
    by_cases c10 : t157.toList = t159.toList
    · rw [if_pos c10] at H
      have c10b0 : (t157.toList == t159.toList) = true := beq_iff_eq.mpr c10
      have c10b1 : (t157.toList != t159.toList) = false := bne_eq_false_iff_eq.mpr c10
      clear c10
      by_cases c11 : t158 = t160
      · rw [if_pos c11] at H
        have c11b0 : (t158 == t160) = true := beq_iff_eq.mpr c11
        have c11b1 : (t158 != t160) = false := bne_eq_false_iff_eq.mpr c11
        clear c11
        by_cases c12 : t161.toList = t164.toList
        · rw [if_pos c12] at H
          have c12b0 : (t161.toList == t164.toList) = true := beq_iff_eq.mpr c12
          have c12b1 : (t161.toList != t164.toList) = false := bne_eq_false_iff_eq.mpr c12
          clear c12
          by_cases c13 : t162 = t165
          · rw [if_pos c13] at H
            have c13b0 : (t162 == t165) = true := beq_iff_eq.mpr c13
            have c13b1 : (t162 != t165) = false := bne_eq_false_iff_eq.mpr c13
            clear c13
            obtain rfl := Option.some.inj H
            go_enter Try.func10, Try.ntmps10
            go_wp2_with (first | ((with_reducible refine gate_callee (f := 33) rfl ?_); refine goesL_ (some 21) rfl rfl Try.func33 (by kernel_rfl) rfl #[.string a0] rfl (by (try simp only [List.map_toArray, List.map_cons, List.map_nil]); first | done | rfl | (simp only [List.length_drop, List.length_take]; rfl)) ?_; (with_reducible refine (words_Text.calls k a0 t157 t158 _ A4.out).mono ?_); rintro e w14 ⟨rfl, hb⟩; refine ⟨_, rfl, ?_⟩; have n0_ := Aside0.mk (below_step (by repeat (first | (with_reducible first | exact HB.out | apply below_alloc | apply pw_below_drewN | apply below_drew1) | exact HB.out)) hb); clear HB; have HB := n0_; clear n0_; (try clear hb); (try clear hb2); (try clear hk); (try clear hi)) | ((with_reducible refine gate_callee (f := 34) rfl ?_); refine goesL_ (some 26) rfl rfl Try.func34 (by kernel_rfl) rfl #[.string a0] rfl (by (try simp only [List.map_toArray, List.map_cons, List.map_nil]); first | done | rfl | (simp only [List.length_drop, List.length_take]; rfl)) ?_; (with_reducible refine (precinctref01_Text.calls k a0 t159 t160 _ A5.out).mono ?_); rintro e w15 ⟨rfl, hb⟩; refine ⟨_, rfl, ?_⟩; have n0_ := Aside0.mk (below_step (by repeat (first | (with_reducible first | exact HB.out | apply below_alloc | apply pw_below_drewN | apply below_drew1) | exact HB.out)) hb); clear HB; have HB := n0_; clear n0_; (try clear hb); (try clear hb2); (try clear hk); (try clear hi)) | ((with_reducible refine gate_callee (f := 35) rfl ?_); refine goesL_ (some 32) rfl rfl Try.func35 (by kernel_rfl) rfl #[.string a1, .int .i64 a2] rfl (by (try simp only [List.map_toArray, List.map_cons, List.map_nil]); first | done | rfl | (simp only [List.length_drop, List.length_take]; rfl)) ?_; (with_reducible refine (words_GetText.calls k a1 a2 t161 t162 t163 _ A6.out).mono ?_); rintro e w' ⟨rfl, ⟨nd, rfl⟩⟩; refine ⟨_, rfl, ?_⟩) | ((with_reducible refine gate_callee (f := 36) rfl ?_); refine goesL_ (some 39) rfl rfl Try.func36 (by kernel_rfl) rfl #[.string a1, .int .i64 a2] rfl (by (try simp only [List.map_toArray, List.map_cons, List.map_nil]); first | done | rfl | (simp only [List.length_drop, List.length_take]; rfl)) ?_; (with_reducible refine (precinctref01_GetText.calls k a1 a2 t164 t165 t166 _ A7.out).mono ?_); rintro e w' ⟨rfl, ⟨nd, rfl⟩⟩; refine ⟨_, rfl, ?_⟩) | ((with_reducible refine gate_callee (f := 33) rfl ?_); refine goesL_ (some 44) rfl rfl Try.func33 (by kernel_rfl) rfl #[.string (⟨#[120]⟩ : ByteArray)] rfl (by (try simp only [List.map_toArray, List.map_cons, List.map_nil]); first | done | rfl | (simp only [List.length_drop, List.length_take]; rfl)) ?_; (with_reducible refine (words_Text.calls k (⟨#[120]⟩ : ByteArray) t167 t168 _ A8.out).mono ?_); rintro e w16 ⟨rfl, hb⟩; refine ⟨_, rfl, ?_⟩; have n0_ := Aside0.mk (below_step (by repeat (first | (with_reducible first | exact HB.out | apply below_alloc | apply pw_below_drewN | apply below_drew1) | exact HB.out)) hb); clear HB; have HB := n0_; clear n0_; (try clear hb); (try clear hb2); (try clear hk); (try clear hi)))
            go_ret
            exact ⟨by first | rfl | (simp [errW_none, errW_some] <;> rfl) | (simp [*, errW_none, errW_some] <;> rfl), by repeat (first | (with_reducible first | exact HB.out | apply below_alloc | apply pw_below_drewN | apply below_drew1) | exact HB.out)⟩
          · rw [if_neg c13] at H
            have c13b0 : (t162 == t165) = false := beq_eq_false_iff_ne.mpr c13
            have c13b1 : (t162 != t165) = true := bne_iff_ne.mpr c13
            exact absurd ((Option.some.inj H).trans hT_.out) (by decide)
        · rw [if_neg c12] at H
          have c12b0 : (t161.toList == t164.toList) = false := beq_eq_false_iff_ne.mpr c12
          have c12b1 : (t161.toList != t164.toList) = true := bne_iff_ne.mpr c12
          exact absurd ((Option.some.inj H).trans hT_.out) (by decide)
      · rw [if_neg c11] at H
        have c11b0 : (t158 == t160) = false := beq_eq_false_iff_ne.mpr c11
        have c11b1 : (t158 != t160) = true := bne_iff_ne.mpr c11
        exact absurd ((Option.some.inj H).trans hT_.out) (by decide)
    · rw [if_neg c10] at H
      have c10b0 : (t157.toList == t159.toList) = false := beq_eq_false_iff_ne.mpr c10
      have c10b1 : (t157.toList != t159.toList) = true := bne_iff_ne.mpr c10
      exact absurd ((Option.some.inj H).trans hT_.out) (by decide)
  · rw [if_neg c9] at H
    have c9b0 : (t167.toList == ([0, 1, 120] : List UInt8)) = false := beq_eq_false_iff_ne.mpr c9
    have c9b1 : (t167.toList != ([0, 1, 120] : List UInt8)) = true := bne_iff_ne.mpr c9
    exact absurd ((Option.some.inj H).trans hT_.out) (by decide)

/-- THE ONE PURE STATEMENT of precinctlaw01_WordsTexts: yours. -/
def precinctlaw01_WordsTexts.Pure : Prop := ∀ (a0 : ByteArray) (a1 : ByteArray) (a2 : Int), a0.size ≤ 140737488351232 → a1.size ≤ 140737488351232 → (Lit.int .i64 a2).wf = true → ∃ k, precinctlaw01_WordsTexts.f k a0 a1 a2 = some true
theorem precinctlaw01_WordsTexts.walk (P : precinctlaw01_WordsTexts.Pure) (a0 : ByteArray) (a1 : ByteArray) (a2 : Int) (w : World) (w0 : a0.size ≤ 140737488351232) (w1 : a1.size ≤ 140737488351232) (w2 : (Lit.int .i64 a2).wf = true) :
    Calls Try.prog 10 #[.string a0, .string a1, .int .i64 a2] w fun e w' => e = .returned (.bool true) ∧ Below w.heap.size w w' := by
  obtain ⟨k, h⟩ := P a0 a1 a2 w0 w1 w2
  refine (precinctlaw01_WordsTexts.calls k a0 a1 a2 true w ⟨rfl⟩ h).mono ?_
  rintro e w' ⟨rfl, hd⟩
  exact ⟨rfl, hd⟩

/-! ### precinctlaw01_wakes: function 37 -/
def precinctlaw01_wakes.f (k : Nat)  : Option (Bool) := (words_Put.f k 3 258).bind fun t169 => (if t169.toList = ([0, 1, 2] : List UInt8) then ((words_Fold.f (-2)).bind fun t170 => (if t170 = 3 then ((words_Rotate.f 1 (-1)).bind fun t171 => (if t171 = 2147483648 then ((words_Bits.f k 180 2 3).bind fun t172 => (if t172 = 5 then ((words_Narrow.f 200 8).bind fun t173 => (some (t173 == (-56)))) else (some false))) else (some false))) else (some false))) else (some false))
theorem precinctlaw01_wakes.mono : ∀ k, LeO (precinctlaw01_wakes.f k ) (precinctlaw01_wakes.f (k + 1) ) := by
  intro  k
  unfold precinctlaw01_wakes.f
  repeat' first
      | (with_reducible exact words_Bits.mono _ _ _ _)
      | (with_reducible exact words_Put.mono _ _ _)
      | (with_reducible exact LeO.refl _)
      | (with_reducible exact LeO.none _)
      | (with_reducible refine LeO.ite ?_ ?_)
      | (with_reducible refine LeO.bind ?_ (fun _ => ?_))
      | exact words_Bits.mono _ _ _ _
      | exact words_Put.mono _ _ _
      | exact LeO.none _
      | refine LeO.ite ?_ ?_
      | refine LeO.bind ?_ (fun _ => ?_)
set_option maxHeartbeats 8000000 in
set_option maxRecDepth 100000 in
theorem precinctlaw01_wakes.calls (k : Nat)  (r : Bool) (w : World) (h : precinctlaw01_wakes.f k  = some r) :
    Calls Try.prog 37 #[] w fun e w' => e = .returned (.bool r) ∧ Below w.heap.size w w' := by
  have HB := Aside0.mk (Below.refl w.heap.size w)
  have H : ((words_Put.f k 3 258).bind fun t169 => (if t169.toList = ([0, 1, 2] : List UInt8) then ((words_Fold.f (-2)).bind fun t170 => (if t170 = 3 then ((words_Rotate.f 1 (-1)).bind fun t171 => (if t171 = 2147483648 then ((words_Bits.f k 180 2 3).bind fun t172 => (if t172 = 5 then ((words_Narrow.f 200 8).bind fun t173 => (some (t173 == (-56)))) else (some false))) else (some false))) else (some false))) else (some false))) = some r := h
  clear h
  replace H := Option.bind_eq_some_iff.mp H
  obtain ⟨t169, A10, H⟩ := H
  replace H : (if t169.toList = ([0, 1, 2] : List UInt8) then ((words_Fold.f (-2)).bind fun t170 => (if t170 = 3 then ((words_Rotate.f 1 (-1)).bind fun t171 => (if t171 = 2147483648 then ((words_Bits.f k 180 2 3).bind fun t172 => (if t172 = 5 then ((words_Narrow.f 200 8).bind fun t173 => (some (t173 == (-56)))) else (some false))) else (some false))) else (some false))) else (some false)) = some r := H
  have A1 := Aside0.mk A10
  clear A10
  by_cases c2 : t169.toList = ([0, 1, 2] : List UInt8)
  · rw [if_pos c2] at H
    have c2b0 : (t169.toList == ([0, 1, 2] : List UInt8)) = true := beq_iff_eq.mpr c2
    have c2b1 : (t169.toList != ([0, 1, 2] : List UInt8)) = false := bne_eq_false_iff_eq.mpr c2
    clear c2
    replace H := Option.bind_eq_some_iff.mp H
    obtain ⟨t170, A30, H⟩ := H
    replace H : (if t170 = 3 then ((words_Rotate.f 1 (-1)).bind fun t171 => (if t171 = 2147483648 then ((words_Bits.f k 180 2 3).bind fun t172 => (if t172 = 5 then ((words_Narrow.f 200 8).bind fun t173 => (some (t173 == (-56)))) else (some false))) else (some false))) else (some false)) = some r := H
    have A3 := Aside0.mk A30
    clear A30
    by_cases c4 : t170 = 3
    · rw [if_pos c4] at H
      have c4b0 : (t170 == 3) = true := beq_iff_eq.mpr c4
      have c4b1 : (t170 != 3) = false := bne_eq_false_iff_eq.mpr c4
      clear c4
      replace H := Option.bind_eq_some_iff.mp H
      obtain ⟨t171, A50, H⟩ := H
      replace H : (if t171 = 2147483648 then ((words_Bits.f k 180 2 3).bind fun t172 => (if t172 = 5 then ((words_Narrow.f 200 8).bind fun t173 => (some (t173 == (-56)))) else (some false))) else (some false)) = some r := H
      have A5 := Aside0.mk A50
      clear A50
      by_cases c6 : t171 = 2147483648
      · rw [if_pos c6] at H
        have c6b0 : (t171 == 2147483648) = true := beq_iff_eq.mpr c6
        have c6b1 : (t171 != 2147483648) = false := bne_eq_false_iff_eq.mpr c6
        clear c6
        replace H := Option.bind_eq_some_iff.mp H
        obtain ⟨t172, A70, H⟩ := H
        replace H : (if t172 = 5 then ((words_Narrow.f 200 8).bind fun t173 => (some (t173 == (-56)))) else (some false)) = some r := H
        have A7 := Aside0.mk A70
        clear A70
        by_cases c8 : t172 = 5
        · rw [if_pos c8] at H
          have c8b0 : (t172 == 5) = true := beq_iff_eq.mpr c8
          have c8b1 : (t172 != 5) = false := bne_eq_false_iff_eq.mpr c8
          clear c8
          replace H := Option.bind_eq_some_iff.mp H
          obtain ⟨t173, A90, H⟩ := H
          replace H : (some (t173 == (-56))) = some r := H
          have A9 := Aside0.mk A90
          clear A90
          obtain rfl := Option.some.inj H
          go_enter Try.func37, Try.ntmps37
          go_wp2_with (first | ((with_reducible refine gate_callee (f := 25) rfl ?_); refine goesL_ (some 1) rfl rfl Try.func25 (by kernel_rfl) rfl #[.int .i64 3, .int .u64 258] rfl (by (try simp only [List.map_toArray, List.map_cons, List.map_nil]); first | done | rfl | (simp only [List.length_drop, List.length_take]; rfl)) ?_; (with_reducible refine (words_Put.calls k 3 258 t169 _ A1.out).mono ?_); rintro e w10 ⟨rfl, hb⟩; refine ⟨_, rfl, ?_⟩; have n0_ := Aside0.mk (below_step (by repeat (first | (with_reducible first | exact HB.out | apply below_alloc | apply pw_below_drewN | apply below_drew1) | exact HB.out)) hb); clear HB; have HB := n0_; clear n0_; (try clear hb); (try clear hb2); (try clear hk); (try clear hi)) | (go_at_call 17; (with_reducible refine (words_Fold.calls (-2) t170 _ A3.out).mono ?_); rintro e w' ⟨rfl, ⟨nd, rfl⟩⟩) | (go_at_call 23; (with_reducible refine (words_Rotate.calls 1 (-1) t171 _ A5.out).mono ?_); rintro e w' ⟨rfl, ⟨nd, rfl⟩⟩) | (go_at_call 29; (with_reducible refine (words_Bits.calls k 180 2 3 t172 _ A7.out).mono ?_); rintro e w11 ⟨rfl, hb⟩; have n0_ := Aside0.mk (below_step (by repeat (first | (with_reducible first | exact HB.out | apply below_alloc | apply pw_below_drewN | apply below_drew1) | exact HB.out)) hb); clear HB; have HB := n0_; clear n0_; (try clear hb); (try clear hb2); (try clear hk); (try clear hi)) | (go_at_call 21; (with_reducible refine (words_Narrow.calls 200 8 t173 _ A9.out).mono ?_); rintro e w12 ⟨rfl, hb⟩; have n0_ := Aside0.mk (below_step (by repeat (first | (with_reducible first | exact HB.out | apply below_alloc | apply pw_below_drewN | apply below_drew1) | exact HB.out)) hb); clear HB; have HB := n0_; clear n0_; (try clear hb); (try clear hb2); (try clear hk); (try clear hi)))
          go_ret
          exact ⟨by first | rfl | (simp [errW_none, errW_some] <;> rfl) | (simp [*, errW_none, errW_some] <;> rfl), by repeat (first | (with_reducible first | exact HB.out | apply below_alloc | apply pw_below_drewN | apply below_drew1) | exact HB.out)⟩
        · rw [if_neg c8] at H
          have c8b0 : (t172 == 5) = false := beq_eq_false_iff_ne.mpr c8
          have c8b1 : (t172 != 5) = true := bne_iff_ne.mpr c8
          obtain rfl := Option.some.inj H
          go_enter Try.func37, Try.ntmps37
          go_wp2_with (first | ((with_reducible refine gate_callee (f := 25) rfl ?_); refine goesL_ (some 1) rfl rfl Try.func25 (by kernel_rfl) rfl #[.int .i64 3, .int .u64 258] rfl (by (try simp only [List.map_toArray, List.map_cons, List.map_nil]); first | done | rfl | (simp only [List.length_drop, List.length_take]; rfl)) ?_; (with_reducible refine (words_Put.calls k 3 258 t169 _ A1.out).mono ?_); rintro e w13 ⟨rfl, hb⟩; refine ⟨_, rfl, ?_⟩; have n0_ := Aside0.mk (below_step (by repeat (first | (with_reducible first | exact HB.out | apply below_alloc | apply pw_below_drewN | apply below_drew1) | exact HB.out)) hb); clear HB; have HB := n0_; clear n0_; (try clear hb); (try clear hb2); (try clear hk); (try clear hi)) | (go_at_call 17; (with_reducible refine (words_Fold.calls (-2) t170 _ A3.out).mono ?_); rintro e w' ⟨rfl, ⟨nd, rfl⟩⟩) | (go_at_call 23; (with_reducible refine (words_Rotate.calls 1 (-1) t171 _ A5.out).mono ?_); rintro e w' ⟨rfl, ⟨nd, rfl⟩⟩) | (go_at_call 29; (with_reducible refine (words_Bits.calls k 180 2 3 t172 _ A7.out).mono ?_); rintro e w14 ⟨rfl, hb⟩; have n0_ := Aside0.mk (below_step (by repeat (first | (with_reducible first | exact HB.out | apply below_alloc | apply pw_below_drewN | apply below_drew1) | exact HB.out)) hb); clear HB; have HB := n0_; clear n0_; (try clear hb); (try clear hb2); (try clear hk); (try clear hi)))
          go_ret
          exact ⟨by first | rfl | (simp [errW_none, errW_some] <;> rfl) | (simp [*, errW_none, errW_some] <;> rfl), by repeat (first | (with_reducible first | exact HB.out | apply below_alloc | apply pw_below_drewN | apply below_drew1) | exact HB.out)⟩
      · rw [if_neg c6] at H
        have c6b0 : (t171 == 2147483648) = false := beq_eq_false_iff_ne.mpr c6
        have c6b1 : (t171 != 2147483648) = true := bne_iff_ne.mpr c6
        obtain rfl := Option.some.inj H
        go_enter Try.func37, Try.ntmps37
        go_wp2_with (first | ((with_reducible refine gate_callee (f := 25) rfl ?_); refine goesL_ (some 1) rfl rfl Try.func25 (by kernel_rfl) rfl #[.int .i64 3, .int .u64 258] rfl (by (try simp only [List.map_toArray, List.map_cons, List.map_nil]); first | done | rfl | (simp only [List.length_drop, List.length_take]; rfl)) ?_; (with_reducible refine (words_Put.calls k 3 258 t169 _ A1.out).mono ?_); rintro e w15 ⟨rfl, hb⟩; refine ⟨_, rfl, ?_⟩; have n0_ := Aside0.mk (below_step (by repeat (first | (with_reducible first | exact HB.out | apply below_alloc | apply pw_below_drewN | apply below_drew1) | exact HB.out)) hb); clear HB; have HB := n0_; clear n0_; (try clear hb); (try clear hb2); (try clear hk); (try clear hi)) | (go_at_call 17; (with_reducible refine (words_Fold.calls (-2) t170 _ A3.out).mono ?_); rintro e w' ⟨rfl, ⟨nd, rfl⟩⟩) | (go_at_call 23; (with_reducible refine (words_Rotate.calls 1 (-1) t171 _ A5.out).mono ?_); rintro e w' ⟨rfl, ⟨nd, rfl⟩⟩))
        go_ret
        exact ⟨by first | rfl | (simp [errW_none, errW_some] <;> rfl) | (simp [*, errW_none, errW_some] <;> rfl), by repeat (first | (with_reducible first | exact HB.out | apply below_alloc | apply pw_below_drewN | apply below_drew1) | exact HB.out)⟩
    · rw [if_neg c4] at H
      have c4b0 : (t170 == 3) = false := beq_eq_false_iff_ne.mpr c4
      have c4b1 : (t170 != 3) = true := bne_iff_ne.mpr c4
      obtain rfl := Option.some.inj H
      go_enter Try.func37, Try.ntmps37
      go_wp2_with (first | ((with_reducible refine gate_callee (f := 25) rfl ?_); refine goesL_ (some 1) rfl rfl Try.func25 (by kernel_rfl) rfl #[.int .i64 3, .int .u64 258] rfl (by (try simp only [List.map_toArray, List.map_cons, List.map_nil]); first | done | rfl | (simp only [List.length_drop, List.length_take]; rfl)) ?_; (with_reducible refine (words_Put.calls k 3 258 t169 _ A1.out).mono ?_); rintro e w16 ⟨rfl, hb⟩; refine ⟨_, rfl, ?_⟩; have n0_ := Aside0.mk (below_step (by repeat (first | (with_reducible first | exact HB.out | apply below_alloc | apply pw_below_drewN | apply below_drew1) | exact HB.out)) hb); clear HB; have HB := n0_; clear n0_; (try clear hb); (try clear hb2); (try clear hk); (try clear hi)) | (go_at_call 17; (with_reducible refine (words_Fold.calls (-2) t170 _ A3.out).mono ?_); rintro e w' ⟨rfl, ⟨nd, rfl⟩⟩))
      go_ret
      exact ⟨by first | rfl | (simp [errW_none, errW_some] <;> rfl) | (simp [*, errW_none, errW_some] <;> rfl), by repeat (first | (with_reducible first | exact HB.out | apply below_alloc | apply pw_below_drewN | apply below_drew1) | exact HB.out)⟩
  · rw [if_neg c2] at H
    have c2b0 : (t169.toList == ([0, 1, 2] : List UInt8)) = false := beq_eq_false_iff_ne.mpr c2
    have c2b1 : (t169.toList != ([0, 1, 2] : List UInt8)) = true := bne_iff_ne.mpr c2
    obtain rfl := Option.some.inj H
    go_enter Try.func37, Try.ntmps37
    go_wp2_with (first | ((with_reducible refine gate_callee (f := 25) rfl ?_); refine goesL_ (some 1) rfl rfl Try.func25 (by kernel_rfl) rfl #[.int .i64 3, .int .u64 258] rfl (by (try simp only [List.map_toArray, List.map_cons, List.map_nil]); first | done | rfl | (simp only [List.length_drop, List.length_take]; rfl)) ?_; (with_reducible refine (words_Put.calls k 3 258 t169 _ A1.out).mono ?_); rintro e w17 ⟨rfl, hb⟩; refine ⟨_, rfl, ?_⟩; have n0_ := Aside0.mk (below_step (by repeat (first | (with_reducible first | exact HB.out | apply below_alloc | apply pw_below_drewN | apply below_drew1) | exact HB.out)) hb); clear HB; have HB := n0_; clear n0_; (try clear hb); (try clear hb2); (try clear hk); (try clear hi)))
    go_ret
    exact ⟨by first | rfl | (simp [errW_none, errW_some] <;> rfl) | (simp [*, errW_none, errW_some] <;> rfl), by repeat (first | (with_reducible first | exact HB.out | apply below_alloc | apply pw_below_drewN | apply below_drew1) | exact HB.out)⟩

end Go.Proofs.Ytfccgiccllnkkaa.PX
