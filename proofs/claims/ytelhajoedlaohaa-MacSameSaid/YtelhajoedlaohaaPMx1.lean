-- printed by a program of this session out of the translation; see NOTES.md
import Derived.Test.YtelhajoedlaohaaPMx0
namespace Go.Proofs.Ytelhajoedlaohaa.PM
open Go.RowKit Go.Proofs.YtelhajoedlaohaaW.PrintWords Go.Proofs.YtelhajoedlaohaaW.PrintLast Go.Proofs.YtelhajoedlaohaaW.PrintMore
attribute [local go_sem] max2_int min2_int max_two min_two max_three min_three max_four min_four   -- for this text's walks alone
set_option linter.unusedVariables false
set_option linter.unusedSimpArgs false

/-! ### mac_Same: function 10 -/
def mac_Same.l0 : Nat → ByteArray → ByteArray → Int → Int → Int → Option (Bool)
  | 0, _, _, _, _, _ => none
  | k + 1, x0, x1, x5, x20, x21 => if x21 < x20 then (if x21 < (x0.size : Int) then (if 0 ≤ x21 then (if x21 < (x1.size : Int) then (mac_Same.l0 k x0 x1 (Go.bits .or .u64 x5 (IntKind.u64.wrap (Go.bits .xor .u8 (bt x0 x21) (bt x1 x21)))) x20 (wrap64 (x21 + 1))) else (mac_Same.l0 k x0 x1 (Go.bits .or .u64 x5 (IntKind.u64.wrap (Go.bits .xor .u8 (bt x0 x21) 0))) x20 (wrap64 (x21 + 1)))) else (none)) else (if x21 < (x1.size : Int) then (if 0 ≤ x21 then (mac_Same.l0 k x0 x1 (Go.bits .or .u64 x5 (IntKind.u64.wrap (Go.bits .xor .u8 0 (bt x1 x21)))) x20 (wrap64 (x21 + 1))) else (none)) else (mac_Same.l0 k x0 x1 (Go.bits .or .u64 x5 (IntKind.u64.wrap (Go.bits .xor .u8 0 0))) x20 (wrap64 (x21 + 1))))) else (some (x5 == 0))
def mac_Same.f (k : Nat) (a0 : ByteArray) (a1 : ByteArray) : Option (Bool) := mac_Same.l0 k a0 a1 (Go.bits .xor .u64 (IntKind.u64.wrap ((a0.size : Int))) (IntKind.u64.wrap ((a1.size : Int)))) (mx (a0.size : Int) (a1.size : Int)) 0
theorem mac_Same.mono_l : ∀ k, (∀ y0 y1 y2 y3 y4, LeO (mac_Same.l0 k y0 y1 y2 y3 y4) (mac_Same.l0 (k + 1) y0 y1 y2 y3 y4))
  | 0 => fun _ _ _ _ _ r h => by simp [mac_Same.l0] at h
  | k + 1 => by
    have ih0 := mac_Same.mono_l k
    · intro y0 y1 y2 y3 y4
      unfold mac_Same.l0
      repeat' first
      | (with_reducible exact ih0 _ _ _ _ _)
      | (with_reducible exact LeO.refl _)
      | (with_reducible exact LeO.none _)
      | (with_reducible refine LeO.ite ?_ ?_)
      | (with_reducible refine LeO.bind ?_ (fun _ => ?_))
      | exact ih0 _ _ _ _ _
      | exact LeO.none _
      | refine LeO.ite ?_ ?_
      | refine LeO.bind ?_ (fun _ => ?_)
theorem mac_Same.mono : ∀ a0 a1 k, LeO (mac_Same.f k a0 a1) (mac_Same.f (k + 1) a0 a1) := by
  intro a0 a1 k
  have ih0 := mac_Same.mono_l k
  unfold mac_Same.f
  repeat' first
      | (with_reducible exact ih0 _ _ _ _ _)
      | (with_reducible exact LeO.refl _)
      | (with_reducible exact LeO.none _)
      | (with_reducible refine LeO.ite ?_ ?_)
      | (with_reducible refine LeO.bind ?_ (fun _ => ?_))
      | exact ih0 _ _ _ _ _
      | exact LeO.none _
      | refine LeO.ite ?_ ?_
      | refine LeO.bind ?_ (fun _ => ?_)
set_option maxHeartbeats 8000000 in
set_option maxRecDepth 100000 in
theorem mac_Same.calls (k : Nat) (a0 : ByteArray) (a1 : ByteArray) (r : Bool) (w : World) (h : mac_Same.f k a0 a1 = some r) :
    Calls Try.prog 10 #[.string a0, .string a1] w fun e w' => e = .returned (.bool r) ∧ Below w.heap.size w w' := by
  have HB := Aside0.mk (Below.refl w.heap.size w)
  have H : (mac_Same.l0 k a0 a1 (Go.bits .xor .u64 (IntKind.u64.wrap ((a0.size : Int))) (IntKind.u64.wrap ((a1.size : Int)))) (mx (a0.size : Int) (a1.size : Int)) 0) = some r := h
  clear h
  obtain ⟨ji3, hji3⟩ : ∃ j_ : Int, (mx (a0.size : Int) (a1.size : Int)) = j_ := ⟨_, rfl⟩
  replace H : (mac_Same.l0 k a0 a1 (Go.bits .xor .u64 (IntKind.u64.wrap ((a0.size : Int))) (IntKind.u64.wrap ((a1.size : Int)))) ji3 0) = some r := by first | (rw [hji3] at H; exact H) | (simp only [hji3] at H ⊢; exact H)
  (try (have hji3l : 0 ≤ ji3 := by (rw [← hji3]; unfold mx; (repeat' split) <;> omega)))
  (try (have hji3m : 0 ≤ ji3 := by omega))
  have hji3_ : (if (a0.size : Int) < (a1.size : Int) then (a1.size : Int) else (a0.size : Int)) = ji3 := hji3
  have H' := Aside0.mk H
  clear H
  go_enter Try.func10, Try.ntmps10
  go_wp2
  case inl =>
    obtain rfl : (a1.size : Int) = ji3 := by rw [← hji3_, if_pos (by omega)]
    clear hji3_ hji3
    go_loopg [5, 21] k (fun kq v5 v21 w' => ∃ (x5_1 : Int) (x21_1 : Int), v5 = .int .u64 x5_1 ∧ v21 = .int .i64 x21_1 ∧ Aside0 (mac_Same.l0 kq a0 a1 x5_1 (a1.size : Int) x21_1 = some r) ∧ Aside0 (kq ≤ k) ∧ Aside0 (Below w.heap.size w w'))
    case atStart => exact ⟨(Go.bits .xor .u64 (IntKind.u64.wrap ((a0.size : Int))) (IntKind.u64.wrap ((a1.size : Int)))), (0), (by first | rfl | (simp; done) | (simp [*]; done)), (by first | rfl | (simp; done) | (simp [*]; done)), H', ⟨Nat.le_refl _⟩, ⟨by repeat (first | (with_reducible first | exact HB.out | apply below_alloc | apply pw_below_drewN | apply below_drew1) | exact HB.out)⟩⟩
    case round =>
      clear H'
      try clear c1
      try clear p2
      obtain ⟨x5_1, x21_1, rfl, rfl, HA, HK1, HB⟩ := hrel
      cases gk with
      | zero => exact absurd HA.out (by simp [mac_Same.l0])
      | succ k1 =>
        have H := HA.out
        clear HA
        simp only [mac_Same.l0] at H
        by_cases c4 : x21_1 < (a1.size : Int)
        · rw [if_pos c4] at H
          have c4b0 : decide (x21_1 < (a1.size : Int)) = true := decide_eq_true c4
          clear c4
          by_cases c5 : x21_1 < (a0.size : Int)
          · rw [if_pos c5] at H
            have c5b0 : decide (x21_1 < (a0.size : Int)) = true := decide_eq_true c5
            clear c5
            by_cases c6 : 0 ≤ x21_1
            · rw [if_pos c6] at H
              have c6b0 : decide (0 ≤ x21_1) = true := decide_eq_true c6
              clear c6
              by_cases c8 : x21_1 < (a1.size : Int)
              · rw [if_pos c8] at H
                have c8b0 : decide (x21_1 < (a1.size : Int)) = true := decide_eq_true c8
                clear c8
                have H' := Aside0.mk H
                clear H
                have p7 : 0 ≤ (x21_1 : Int) := of_decide_eq_true (by first | (with_reducible assumption) | assumption)
                have q7 : x21_1 < (a0.size : Int) := of_decide_eq_true (by first | (with_reducible assumption) | assumption)
                have hx7 := bt_at a0 x21_1
                replace p7 := eq_true p7
                replace q7 := eq_true q7
                have p9 : 0 ≤ (x21_1 : Int) := of_decide_eq_true (by first | (with_reducible assumption) | assumption)
                have q9 : x21_1 < (a1.size : Int) := of_decide_eq_true (by first | (with_reducible assumption) | assumption)
                have hx9 := bt_at a1 x21_1
                replace p9 := eq_true p9
                replace q9 := eq_true q9
                go_wp2
                go_roundg k1
                case measure => have := HK1.out; omega
                case rel => exact ⟨(Go.bits .or .u64 x5_1 (IntKind.u64.wrap (Go.bits .xor .u8 (bt a0 x21_1) (bt a1 x21_1)))), (wrap64 (x21_1 + 1)), (by first | rfl | (simp; done) | (simp [*]; done)), (by first | rfl | (simp; done) | (simp [*]; done)), H', ⟨by have := HK1.out; omega⟩, ⟨by repeat (first | (with_reducible first | exact HB.out | apply below_alloc | apply pw_below_drewN | apply below_drew1) | exact HB.out)⟩⟩
              · exact absurd (of_decide_eq_true c4b0) c8
            · rw [if_neg c6] at H
              exact absurd H (by simp)
          · rw [if_neg c5] at H
            have c5b0 : decide (x21_1 < (a0.size : Int)) = false := decide_eq_false c5
            clear c5
            by_cases c10 : x21_1 < (a1.size : Int)
            · rw [if_pos c10] at H
              have c10b0 : decide (x21_1 < (a1.size : Int)) = true := decide_eq_true c10
              clear c10
              by_cases c11 : 0 ≤ x21_1
              · rw [if_pos c11] at H
                have c11b0 : decide (0 ≤ x21_1) = true := decide_eq_true c11
                clear c11
                have H' := Aside0.mk H
                clear H
                have p12 : 0 ≤ (x21_1 : Int) := of_decide_eq_true (by first | (with_reducible assumption) | assumption)
                have q12 : x21_1 < (a1.size : Int) := of_decide_eq_true (by first | (with_reducible assumption) | assumption)
                have hx12 := bt_at a1 x21_1
                replace p12 := eq_true p12
                replace q12 := eq_true q12
                go_wp2
                go_roundg k1
                case measure => have := HK1.out; omega
                case rel => exact ⟨(Go.bits .or .u64 x5_1 (IntKind.u64.wrap (Go.bits .xor .u8 0 (bt a1 x21_1)))), (wrap64 (x21_1 + 1)), (by first | rfl | (simp; done) | (simp [*]; done)), (by first | rfl | (simp; done) | (simp [*]; done)), H', ⟨by have := HK1.out; omega⟩, ⟨by repeat (first | (with_reducible first | exact HB.out | apply below_alloc | apply pw_below_drewN | apply below_drew1) | exact HB.out)⟩⟩
              · rw [if_neg c11] at H
                exact absurd H (by simp)
            · exact absurd (of_decide_eq_true c4b0) c10
        · rw [if_neg c4] at H
          have c4b0 : decide (x21_1 < (a1.size : Int)) = false := decide_eq_false c4
          clear c4
          obtain rfl := Option.some.inj H
          go_wp2
          go_ret
          exact ⟨by first | rfl | (simp [errW_none, errW_some] <;> rfl) | (simp only [← hji3]; first | rfl | (simp [errW_none, errW_some] <;> rfl)) | (simp [*, errW_none, errW_some] <;> rfl), by repeat (first | (with_reducible first | exact HB.out | apply below_alloc | apply pw_below_drewN | apply below_drew1) | exact HB.out)⟩

  case inr =>
    obtain rfl : (a0.size : Int) = ji3 := by rw [← hji3_, if_neg (by omega)]
    clear hji3_ hji3
    go_loopg [5, 21] k (fun kq v5 v21 w' => ∃ (x5_1 : Int) (x21_1 : Int), v5 = .int .u64 x5_1 ∧ v21 = .int .i64 x21_1 ∧ Aside0 (mac_Same.l0 kq a0 a1 x5_1 (a0.size : Int) x21_1 = some r) ∧ Aside0 (kq ≤ k) ∧ Aside0 (Below w.heap.size w w'))
    case atStart => exact ⟨(Go.bits .xor .u64 (IntKind.u64.wrap ((a0.size : Int))) (IntKind.u64.wrap ((a1.size : Int)))), (0), (by first | rfl | (simp; done) | (simp [*]; done)), (by first | rfl | (simp; done) | (simp [*]; done)), H', ⟨Nat.le_refl _⟩, ⟨by repeat (first | (with_reducible first | exact HB.out | apply below_alloc | apply pw_below_drewN | apply below_drew1) | exact HB.out)⟩⟩
    case round =>
      clear H'
      try clear c1
      try clear p2
      obtain ⟨x5_1, x21_1, rfl, rfl, HA, HK1, HB⟩ := hrel
      cases gk with
      | zero => exact absurd HA.out (by simp [mac_Same.l0])
      | succ k1 =>
        have H := HA.out
        clear HA
        simp only [mac_Same.l0] at H
        by_cases c4 : x21_1 < (a0.size : Int)
        · rw [if_pos c4] at H
          have c4b0 : decide (x21_1 < (a0.size : Int)) = true := decide_eq_true c4
          clear c4
          by_cases c5 : x21_1 < (a0.size : Int)
          · rw [if_pos c5] at H
            have c5b0 : decide (x21_1 < (a0.size : Int)) = true := decide_eq_true c5
            clear c5
            by_cases c6 : 0 ≤ x21_1
            · rw [if_pos c6] at H
              have c6b0 : decide (0 ≤ x21_1) = true := decide_eq_true c6
              clear c6
              by_cases c8 : x21_1 < (a1.size : Int)
              · rw [if_pos c8] at H
                have c8b0 : decide (x21_1 < (a1.size : Int)) = true := decide_eq_true c8
                clear c8
                have H' := Aside0.mk H
                clear H
                have p7 : 0 ≤ (x21_1 : Int) := of_decide_eq_true (by first | (with_reducible assumption) | assumption)
                have q7 : x21_1 < (a0.size : Int) := of_decide_eq_true (by first | (with_reducible assumption) | assumption)
                have hx7 := bt_at a0 x21_1
                replace p7 := eq_true p7
                replace q7 := eq_true q7
                have p9 : 0 ≤ (x21_1 : Int) := of_decide_eq_true (by first | (with_reducible assumption) | assumption)
                have q9 : x21_1 < (a1.size : Int) := of_decide_eq_true (by first | (with_reducible assumption) | assumption)
                have hx9 := bt_at a1 x21_1
                replace p9 := eq_true p9
                replace q9 := eq_true q9
                go_wp2
                go_roundg k1
                case measure => have := HK1.out; omega
                case rel => exact ⟨(Go.bits .or .u64 x5_1 (IntKind.u64.wrap (Go.bits .xor .u8 (bt a0 x21_1) (bt a1 x21_1)))), (wrap64 (x21_1 + 1)), (by first | rfl | (simp; done) | (simp [*]; done)), (by first | rfl | (simp; done) | (simp [*]; done)), H', ⟨by have := HK1.out; omega⟩, ⟨by repeat (first | (with_reducible first | exact HB.out | apply below_alloc | apply pw_below_drewN | apply below_drew1) | exact HB.out)⟩⟩
              · rw [if_neg c8] at H
                have c8b0 : decide (x21_1 < (a1.size : Int)) = false := decide_eq_false c8
                clear c8
                have H' := Aside0.mk H
                clear H
                have p7 : 0 ≤ (x21_1 : Int) := of_decide_eq_true (by first | (with_reducible assumption) | assumption)
                have q7 : x21_1 < (a0.size : Int) := of_decide_eq_true (by first | (with_reducible assumption) | assumption)
                have hx7 := bt_at a0 x21_1
                replace p7 := eq_true p7
                replace q7 := eq_true q7
                go_wp2
                go_roundg k1
                case measure => have := HK1.out; omega
                case rel => exact ⟨(Go.bits .or .u64 x5_1 (IntKind.u64.wrap (Go.bits .xor .u8 (bt a0 x21_1) 0))), (wrap64 (x21_1 + 1)), (by first | rfl | (simp; done) | (simp [*]; done)), (by first | rfl | (simp; done) | (simp [*]; done)), H', ⟨by have := HK1.out; omega⟩, ⟨by repeat (first | (with_reducible first | exact HB.out | apply below_alloc | apply pw_below_drewN | apply below_drew1) | exact HB.out)⟩⟩
            · rw [if_neg c6] at H
              exact absurd H (by simp)
          · exact absurd (of_decide_eq_true c4b0) c5
        · rw [if_neg c4] at H
          have c4b0 : decide (x21_1 < (a0.size : Int)) = false := decide_eq_false c4
          clear c4
          obtain rfl := Option.some.inj H
          go_wp2
          go_ret
          exact ⟨by first | rfl | (simp [errW_none, errW_some] <;> rfl) | (simp only [← hji3]; first | rfl | (simp [errW_none, errW_some] <;> rfl)) | (simp [*, errW_none, errW_some] <;> rfl), by repeat (first | (with_reducible first | exact HB.out | apply below_alloc | apply pw_below_drewN | apply below_drew1) | exact HB.out)⟩

/-! ### precinctref05_Same: function 11 -/
def precinctref05_Same.f (a0 : ByteArray) (a1 : ByteArray) : Option (Bool) := some (a0.toList == a1.toList)
set_option maxHeartbeats 8000000 in
set_option maxRecDepth 100000 in
theorem precinctref05_Same.calls (a0 : ByteArray) (a1 : ByteArray) (r : Bool) (w : World) (h : precinctref05_Same.f a0 a1 = some r) :
    Calls Try.prog 11 #[.string a0, .string a1] w fun e w' => e = .returned (.bool r) ∧ Drawn0 w w' := by
  have H : (some (a0.toList == a1.toList)) = some r := h
  clear h
  obtain rfl := Option.some.inj H
  go_enter Try.func11, Try.ntmps11
  go_wp2
  go_ret
  exact ⟨by first | rfl | (simp; done) | (simp [*]; done), by repeat (first | exact Drawn0.refl _ | apply Drawn0.step)⟩

-- NOT PRINTED: function 3 (precinctlaw05_MacSame)

end Go.Proofs.Ytelhajoedlaohaa.PM
