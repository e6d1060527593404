/-
  mac.Same tells which texts are the same: plain.
-/
import Derived.Test.YtpbnfnaebdmagaaDoorH1
import Derived.Test.YtpbnfnaebdmagaaDoorH0
-- printed by a program of this session out of the translation; see NOTES.md
namespace Go.Proofs.YtpbnfnaebdmagaaDoor.PT
open Go.RowKit Go.Proofs.YtpbnfnaebdmagaaDoorW.PrintWords Go.Proofs.YtpbnfnaebdmagaaDoorW.PrintLast Go.Proofs.YtpbnfnaebdmagaaDoorW.PrintMore Go.Proofs.YtpbnfnaebdmagaaDoorRb
attribute [local go_sem] max2_int min2_int max_two min_two max_three min_three max_four min_four   -- for this text's walks alone
set_option linter.unusedVariables false
set_option linter.unusedSimpArgs false

/-! ### mac_Same: function 31 -/
def mac_Same.l0 : Nat → ByteArray → ByteArray → Int → Int → Int → Option (Bool)
 | 0, _, _, _, _, _ => none
 | k + 1, x0, x1, x5, x20, x21 => if x21 < x20 then (if x21 < (x0.size : Int) then (if 0 ≤ x21 then (if x21 < (x1.size : Int) then (mac_Same.l0 k x0 x1 (Go.bits .or .u64 x5 (IntKind.u64.wrap (Go.bits .xor .u8 (bt x0 x21) (bt x1 x21)))) x20 (wrap64 (x21 + 1))) else (mac_Same.l0 k x0 x1 (Go.bits .or .u64 x5 (IntKind.u64.wrap (Go.bits .xor .u8 (bt x0 x21) 0))) x20 (wrap64 (x21 + 1)))) else (none)) else (if x21 < (x1.size : Int) then (if 0 ≤ x21 then (mac_Same.l0 k x0 x1 (Go.bits .or .u64 x5 (IntKind.u64.wrap (Go.bits .xor .u8 0 (bt x1 x21)))) x20 (wrap64 (x21 + 1))) else (none)) else (mac_Same.l0 k x0 x1 (Go.bits .or .u64 x5 (IntKind.u64.wrap (Go.bits .xor .u8 0 0))) x20 (wrap64 (x21 + 1))))) else (some (x5 == 0))
def mac_Same.f (k : Nat) (a0 : ByteArray) (a1 : ByteArray) : Option (Bool) := mac_Same.l0 k a0 a1 (Go.bits .xor .u64 (IntKind.u64.wrap ((a0.size : Int))) (IntKind.u64.wrap ((a1.size : Int)))) (mx (a0.size : Int) (a1.size : Int)) 0
theorem mac_Same.mono_l : ∀ k, (∀ y0 y1 y2 y3 y4, LeO (mac_Same.l0 k y0 y1 y2 y3 y4) (mac_Same.l0 (k + 1) y0 y1 y2 y3 y4))
 | 0 => fun _ _ _ _ _ r h => by simp [mac_Same.l0] at h
 | k + 1 => by
  have ih0 := mac_Same.mono_l k
  ·intro y0 y1 y2 y3 y4
   unfold mac_Same.l0
   repeat' first
   | (with_reducible exact ih0 _ _ _ _ _)
   | (with_reducible exact LeO.refl _)
   | (with_reducible exact LeO.none _)
   | (with_reducible refine LeO.ite ?_ ?_)
   | (with_reducible refine LeO.bind ?_ (fun _ => ?_))
   | exact ih0 _ _ _ _ _
   | exact LeO.none _
   | refine LeO.ite ?_ ?_
   | refine LeO.bind ?_ (fun _ => ?_)
theorem mac_Same.mono : ∀ a0 a1 k, LeO (mac_Same.f k a0 a1) (mac_Same.f (k + 1) a0 a1) := by
 intro a0 a1 k
 have ih0 := mac_Same.mono_l k
 unfold mac_Same.f
 repeat' first
   | (with_reducible exact ih0 _ _ _ _ _)
   | (with_reducible exact LeO.refl _)
   | (with_reducible exact LeO.none _)
   | (with_reducible refine LeO.ite ?_ ?_)
   | (with_reducible refine LeO.bind ?_ (fun _ => ?_))
   | exact ih0 _ _ _ _ _
   | exact LeO.none _
   | refine LeO.ite ?_ ?_
   | refine LeO.bind ?_ (fun _ => ?_)
set_option maxHeartbeats 8000000 in
set_option maxRecDepth 100000 in
theorem mac_Same.calls (k : Nat) (a0 : ByteArray) (a1 : ByteArray) (r : Bool) (w : World) (h : mac_Same.f k a0 a1 = some r) :
  Calls Tryd.prog 31 #[.string a0, .string a1] w fun e w' => e = .returned (.bool r) ∧ Below w.heap.size w w' := by
 have HB := Aside0.mk (Below.refl w.heap.size w)
 have H : (mac_Same.l0 k a0 a1 (Go.bits .xor .u64 (IntKind.u64.wrap ((a0.size : Int))) (IntKind.u64.wrap ((a1.size : Int)))) (mx (a0.size : Int) (a1.size : Int)) 0) = some r := h
 clear h
 obtain ⟨ji3, hji3⟩ : ∃ j_ : Int, (mx (a0.size : Int) (a1.size : Int)) = j_ := ⟨_, rfl⟩
 replace H : (mac_Same.l0 k a0 a1 (Go.bits .xor .u64 (IntKind.u64.wrap ((a0.size : Int))) (IntKind.u64.wrap ((a1.size : Int)))) ji3 0) = some r := by first | (rw [hji3] at H; exact H) | (simp only [hji3] at H ⊢; exact H)
 (try (have hji3l : 0 ≤ ji3 := by (rw [← hji3]; unfold mx; (repeat' split) <;> omega)))
 (try (have hji3m : 0 ≤ ji3 := by omega))
 have hji3_ : (if (a0.size : Int) < (a1.size : Int) then (a1.size : Int) else (a0.size : Int)) = ji3 := hji3
 have H' := Aside0.mk H
 clear H
 go_enter Tryd.func31, Tryd.ntmps31
 go_wp2
 case inl =>
  obtain rfl : (a1.size : Int) = ji3 := by rw [← hji3_, if_pos (by omega)]
  clear hji3_ hji3
  go_loopg [5, 21] k (fun kq v5 v21 w' => ∃ (x5_1 : Int) (x21_1 : Int), v5 = .int .u64 x5_1 ∧ v21 = .int .i64 x21_1 ∧ Aside0 (mac_Same.l0 kq a0 a1 x5_1 (a1.size : Int) x21_1 = some r) ∧ Aside0 (kq ≤ k) ∧ Aside0 (Below w.heap.size w w'))
  case atStart => exact ⟨(Go.bits .xor .u64 (IntKind.u64.wrap ((a0.size : Int))) (IntKind.u64.wrap ((a1.size : Int)))), (0), (by first | rfl | (simp; done) | (simp [*]; done)), (by first | rfl | (simp; done) | (simp [*]; done)), H', ⟨Nat.le_refl _⟩, ⟨bb⟩⟩
  case round =>
   clear H'
   try clear p2
   try clear c3
   obtain ⟨x5_1, x21_1, rfl, rfl, HA, HK1, HB⟩ := hrel
   cases gk with
   | zero => exact absurd HA.out (by simp [mac_Same.l0])
   | succ k1 =>
    have H := HA.out
    clear HA
    simp only [mac_Same.l0] at H
    by_cases c4 : x21_1 < (a1.size : Int)
    ·rw [if_pos c4] at H
     have c4b0 : decide (x21_1 < (a1.size : Int)) = true := decide_eq_true c4
     clear c4
     by_cases c5 : x21_1 < (a0.size : Int)
     ·rw [if_pos c5] at H
      have c5b0 : decide (x21_1 < (a0.size : Int)) = true := decide_eq_true c5
      clear c5
      by_cases c6 : 0 ≤ x21_1
      ·rw [if_pos c6] at H
       have c6b0 : decide (0 ≤ x21_1) = true := decide_eq_true c6
       clear c6
       by_cases c8 : x21_1 < (a1.size : Int)
       ·rw [if_pos c8] at H
        have c8b0 : decide (x21_1 < (a1.size : Int)) = true := decide_eq_true c8
        clear c8
        have H' := Aside0.mk H
        clear H
        have p7 : 0 ≤ (x21_1 : Int) := of_decide_eq_true (by first | (with_reducible assumption) | assumption)
        have q7 : x21_1 < (a0.size : Int) := of_decide_eq_true (by first | (with_reducible assumption) | assumption)
        have hx7 := bt_at a0 x21_1
        replace p7 := eq_true p7
        replace q7 := eq_true q7
        have p9 : 0 ≤ (x21_1 : Int) := of_decide_eq_true (by first | (with_reducible assumption) | assumption)
        have q9 : x21_1 < (a1.size : Int) := of_decide_eq_true (by first | (with_reducible assumption) | assumption)
        have hx9 := bt_at a1 x21_1
        replace p9 := eq_true p9
        replace q9 := eq_true q9
        go_wp2
        go_roundg k1
        case measure => have := HK1.out; omega
        case rel => exact ⟨(Go.bits .or .u64 x5_1 (IntKind.u64.wrap (Go.bits .xor .u8 (bt a0 x21_1) (bt a1 x21_1)))), (wrap64 (x21_1 + 1)), (by first | rfl | (simp; done) | (simp [*]; done)), (by first | rfl | (simp; done) | (simp [*]; done)), H', ⟨by have := HK1.out; omega⟩, ⟨bb⟩⟩
       ·exact absurd (of_decide_eq_true c4b0) c8
      ·rw [if_neg c6] at H
       exact absurd H (by simp)
     ·rw [if_neg c5] at H
      have c5b0 : decide (x21_1 < (a0.size : Int)) = false := decide_eq_false c5
      clear c5
      by_cases c10 : x21_1 < (a1.size : Int)
      ·rw [if_pos c10] at H
       have c10b0 : decide (x21_1 < (a1.size : Int)) = true := decide_eq_true c10
       clear c10
       by_cases c11 : 0 ≤ x21_1
       ·rw [if_pos c11] at H
        have c11b0 : decide (0 ≤ x21_1) = true := decide_eq_true c11
        clear c11
        have H' := Aside0.mk H
        clear H
        have p12 : 0 ≤ (x21_1 : Int) := of_decide_eq_true (by first | (with_reducible assumption) | assumption)
        have q12 : x21_1 < (a1.size : Int) := of_decide_eq_true (by first | (with_reducible assumption) | assumption)
        have hx12 := bt_at a1 x21_1
        replace p12 := eq_true p12
        replace q12 := eq_true q12
        go_wp2
        go_roundg k1
        case measure => have := HK1.out; omega
        case rel => exact ⟨(Go.bits .or .u64 x5_1 (IntKind.u64.wrap (Go.bits .xor .u8 0 (bt a1 x21_1)))), (wrap64 (x21_1 + 1)), (by first | rfl | (simp; done) | (simp [*]; done)), (by first | rfl | (simp; done) | (simp [*]; done)), H', ⟨by have := HK1.out; omega⟩, ⟨bb⟩⟩
       ·rw [if_neg c11] at H
        exact absurd H (by simp)
      ·exact absurd (of_decide_eq_true c4b0) c10
    ·rw [if_neg c4] at H
     have c4b0 : decide (x21_1 < (a1.size : Int)) = false := decide_eq_false c4
     clear c4
     obtain rfl := Option.some.inj H
     go_wp2
     go_ret
     exact ⟨by first | rfl | (simp [errW_none, errW_some] <;> rfl) | (simp only [← hji3]; first | rfl | (simp [errW_none, errW_some] <;> rfl)) | (simp [*, errW_none, errW_some] <;> rfl), bb⟩

 case inr =>
  obtain rfl : (a0.size : Int) = ji3 := by rw [← hji3_, if_neg (by omega)]
  clear hji3_ hji3
  go_loopg [5, 21] k (fun kq v5 v21 w' => ∃ (x5_1 : Int) (x21_1 : Int), v5 = .int .u64 x5_1 ∧ v21 = .int .i64 x21_1 ∧ Aside0 (mac_Same.l0 kq a0 a1 x5_1 (a0.size : Int) x21_1 = some r) ∧ Aside0 (kq ≤ k) ∧ Aside0 (Below w.heap.size w w'))
  case atStart => exact ⟨(Go.bits .xor .u64 (IntKind.u64.wrap ((a0.size : Int))) (IntKind.u64.wrap ((a1.size : Int)))), (0), (by first | rfl | (simp; done) | (simp [*]; done)), (by first | rfl | (simp; done) | (simp [*]; done)), H', ⟨Nat.le_refl _⟩, ⟨bb⟩⟩
  case round =>
   clear H'
   try clear p2
   try clear c3
   obtain ⟨x5_1, x21_1, rfl, rfl, HA, HK1, HB⟩ := hrel
   cases gk with
   | zero => exact absurd HA.out (by simp [mac_Same.l0])
   | succ k1 =>
    have H := HA.out
    clear HA
    simp only [mac_Same.l0] at H
    by_cases c4 : x21_1 < (a0.size : Int)
    ·rw [if_pos c4] at H
     have c4b0 : decide (x21_1 < (a0.size : Int)) = true := decide_eq_true c4
     clear c4
     by_cases c5 : x21_1 < (a0.size : Int)
     ·rw [if_pos c5] at H
      have c5b0 : decide (x21_1 < (a0.size : Int)) = true := decide_eq_true c5
      clear c5
      by_cases c6 : 0 ≤ x21_1
      ·rw [if_pos c6] at H
       have c6b0 : decide (0 ≤ x21_1) = true := decide_eq_true c6
       clear c6
       by_cases c8 : x21_1 < (a1.size : Int)
       ·rw [if_pos c8] at H
        have c8b0 : decide (x21_1 < (a1.size : Int)) = true := decide_eq_true c8
        clear c8
        have H' := Aside0.mk H
        clear H
        have p7 : 0 ≤ (x21_1 : Int) := of_decide_eq_true (by first | (with_reducible assumption) | assumption)
        have q7 : x21_1 < (a0.size : Int) := of_decide_eq_true (by first | (with_reducible assumption) | assumption)
        have hx7 := bt_at a0 x21_1
        replace p7 := eq_true p7
        replace q7 := eq_true q7
        have p9 : 0 ≤ (x21_1 : Int) := of_decide_eq_true (by first | (with_reducible assumption) | assumption)
        have q9 : x21_1 < (a1.size : Int) := of_decide_eq_true (by first | (with_reducible assumption) | assumption)
        have hx9 := bt_at a1 x21_1
        replace p9 := eq_true p9
        replace q9 := eq_true q9
        go_wp2
        go_roundg k1
        case measure => have := HK1.out; omega
        case rel => exact ⟨(Go.bits .or .u64 x5_1 (IntKind.u64.wrap (Go.bits .xor .u8 (bt a0 x21_1) (bt a1 x21_1)))), (wrap64 (x21_1 + 1)), (by first | rfl | (simp; done) | (simp [*]; done)), (by first | rfl | (simp; done) | (simp [*]; done)), H', ⟨by have := HK1.out; omega⟩, ⟨bb⟩⟩
       ·rw [if_neg c8] at H
        have c8b0 : decide (x21_1 < (a1.size : Int)) = false := decide_eq_false c8
        clear c8
        have H' := Aside0.mk H
        clear H
        have p7 : 0 ≤ (x21_1 : Int) := of_decide_eq_true (by first | (with_reducible assumption) | assumption)
        have q7 : x21_1 < (a0.size : Int) := of_decide_eq_true (by first | (with_reducible assumption) | assumption)
        have hx7 := bt_at a0 x21_1
        replace p7 := eq_true p7
        replace q7 := eq_true q7
        go_wp2
        go_roundg k1
        case measure => have := HK1.out; omega
        case rel => exact ⟨(Go.bits .or .u64 x5_1 (IntKind.u64.wrap (Go.bits .xor .u8 (bt a0 x21_1) 0))), (wrap64 (x21_1 + 1)), (by first | rfl | (simp; done) | (simp [*]; done)), (by first | rfl | (simp; done) | (simp [*]; done)), H', ⟨by have := HK1.out; omega⟩, ⟨bb⟩⟩
      ·rw [if_neg c6] at H
       exact absurd H (by simp)
     ·exact absurd (of_decide_eq_true c4b0) c5
    ·rw [if_neg c4] at H
     have c4b0 : decide (x21_1 < (a0.size : Int)) = false := decide_eq_false c4
     clear c4
     obtain rfl := Option.some.inj H
     go_wp2
     go_ret
     exact ⟨by first | rfl | (simp [errW_none, errW_some] <;> rfl) | (simp only [← hji3]; first | rfl | (simp [errW_none, errW_some] <;> rfl)) | (simp [*, errW_none, errW_some] <;> rfl), bb⟩

end Go.Proofs.YtpbnfnaebdmagaaDoor.PT
namespace Go.Proofs.YtpbnfnaebdmagaaDoor.Ms
set_option linter.unusedVariables false
set_option linter.unusedSimpArgs false
open Go Go.RowKit Go.Proofs.YtpbnfnaebdmagaaDoor.Plain Go.Proofs.YtpbnfnaebdmagaaDoor.PT Go.Proofs.YtpbnfnaebdmagaaDoorW.PrintWords Go.Proofs.YtpbnfnaebdmagaaDoorW.PrintLast Go.Proofs.YtpbnfnaebdmagaaDoorW.PrintMore
theorem bv8 (x : Int) (h0 : 0 ≤ x) (h1 : x < 256) : (BitVec.ofInt 8 x).toNat = x.toNat := by
  rw [BitVec.toNat_ofInt]; omega
theorem xor_u8 (x y : Int) (h0 : 0 ≤ x) (h1 : x < 256) (k0 : 0 ≤ y) (k1 : y < 256) : bits .xor .u8 x y = ((x.toNat ^^^ y.toNat : Nat) : Int) := by
  show IntKind.u8.wrap ((BitVec.ofInt 8 x ^^^ BitVec.ofInt 8 y).toNat : Int) = _
  rw [BitVec.toNat_xor, bv8 x h0 h1, bv8 y k0 k1]
  have := Nat.xor_lt_two_pow (x := x.toNat) (y := y.toNat) (n := 8) (by omega) (by omega)
  simp [IntKind.wrap, IntKind.bits, IntKind.signed]
  omega
theorem xor_zero_iff (x y : Nat) : x ^^^ y = 0 ↔ x = y := by
  constructor
  · intro h
    have : x ^^^ y ^^^ y = y := by rw [h, Nat.zero_xor]
    rw [Nat.xor_assoc, Nat.xor_self, Nat.xor_zero] at this
    exact this
  · rintro rfl; exact Nat.xor_self x
theorem or_zero_iff (x y : Nat) : x ||| y = 0 ↔ x = 0 ∧ y = 0 := by
  constructor
  · intro h
    have h1 : x ≤ x ||| y := Nat.left_le_or
    have h2 : y ≤ x ||| y := Nat.right_le_or
    omega
  · rintro ⟨rfl, rfl⟩; rfl
theorem bt_out (s : ByteArray) (i : Int) (h : (s.size : Int) ≤ i) : bt s i = 0 := by
  unfold bt
  rw [dif_neg (by omega)]
/-- one step of the sum of differences -/
theorem mix (x p q : Int) (hx : 0 ≤ x ∧ x < 18446744073709551616) (hp : 0 ≤ p ∧ p ≤ 255) (hq : 0 ≤ q ∧ q ≤ 255) :
    (0 ≤ bits .or .u64 x (IntKind.u64.wrap (bits .xor .u8 p q)) ∧ bits .or .u64 x (IntKind.u64.wrap (bits .xor .u8 p q)) < 18446744073709551616) ∧ (bits .or .u64 x (IntKind.u64.wrap (bits .xor .u8 p q)) = 0 ↔ x = 0 ∧ p = q) := by
  rw [xor_u8 p q (by omega) (by omega) (by omega) (by omega)]
  have h8 := Nat.xor_lt_two_pow (x := p.toNat) (y := q.toNat) (n := 8) (by omega) (by omega)
  have hz := xor_zero_iff p.toNat q.toNat
  generalize p.toNat ^^^ q.toNat = z at h8 hz
  rw [wu64, Int.emod_eq_of_lt (by omega) (by omega), or_u64 x z (by omega) (by omega) (by omega) (by omega)]
  have h64 := Nat.or_lt_two_pow (x := x.toNat) (y := (z : Int).toNat) (n := 64) (by omega) (by omega)
  have ho := or_zero_iff x.toNat (z : Int).toNat
  generalize x.toNat ||| (z : Int).toNat = u at h64 ho
  refine ⟨by omega, ?_⟩
  constructor
  · intro h
    have h1 := ho.mp (by omega)
    have h2 := hz.mp (by omega)
    omega
  · rintro ⟨h1, h2⟩
    have h3 := hz.mpr (by omega)
    have h4 := ho.mpr (by omega)
    omega
theorem same_loop (a b : ByteArray) (M : Int) (hM : M ≤ 9223372036854775806) : ∀ (d : Nat) (i x : Int), 0 ≤ i → i + d = M → 0 ≤ x ∧ x < 18446744073709551616 →
    ∃ r : Bool, mac_Same.l0 (d + 1) a b x M i = some r ∧ (r = true ↔ x = 0 ∧ ∀ j : Int, i ≤ j → j < M → bt a j = bt b j)
  | 0, i, x, h0, h, hx => by
    refine ⟨x == 0, ?_, ?_⟩
    · simp only [mac_Same.l0]
      rw [if_neg (by omega)]
    · constructor
      · intro h1
        exact ⟨by simpa using h1, fun j j0 j1 => by omega⟩
      · rintro ⟨rfl, _⟩; rfl
  | d + 1, i, x, h0, h, hx => by
    have e1 : wrap64 (i + 1) = i + 1 := by unfold wrap64; omega
    have pa := bt_range a i
    have pb := bt_range b i
    obtain ⟨hr, hy⟩ := mix x (bt a i) (bt b i) hx pa pb
    have hs : mac_Same.l0 (d + 1 + 1) a b x M i = mac_Same.l0 (d + 1) a b (bits .or .u64 x (IntKind.u64.wrap (bits .xor .u8 (bt a i) (bt b i)))) M (i + 1) := by
      rw [mac_Same.l0, if_pos (by omega), e1]
      by_cases c1 : i < (a.size : Int)
      · rw [if_pos c1, if_pos h0]
        by_cases c2 : i < (b.size : Int)
        · rw [if_pos c2]
        · rw [if_neg c2, bt_out b i (by omega)]
      · rw [if_neg c1, bt_out a i (by omega)]
        by_cases c2 : i < (b.size : Int)
        · rw [if_pos c2, if_pos h0]
        · rw [if_neg c2, bt_out b i (by omega)]
    rw [hs]
    obtain ⟨r, h1, h2⟩ := same_loop a b M hM d (i + 1) _ (by omega) (by omega) hr
    refine ⟨r, h1, h2.trans ?_⟩
    rw [hy]
    constructor
    · rintro ⟨⟨g1, g2⟩, g3⟩
      refine ⟨g1, fun j j0 j1 => ?_⟩
      by_cases c : j = i
      · rw [c]; exact g2
      · exact g3 j (by omega) j1
    · rintro ⟨g1, g2⟩
      exact ⟨⟨g1, g2 i (by omega) (by omega)⟩, fun j j0 j1 => g2 j (by omega) j1⟩
theorem bt_nat (s : ByteArray) (i : Nat) (h : i < s.data.toList.length) : bt s i = ((s.data.toList[i]).toNat : Int) := by
  have hl : s.data.toList.length = s.size := Array.length_toList
  have h' : (i : Int).toNat < s.size := by omega
  unfold bt
  rw [dif_pos h']
  simp only [Int.toNat_natCast, Array.getElem_toList]
  rfl
theorem same_bytes (a b : ByteArray) (hs : a.size = b.size) (h : ∀ j : Int, 0 ≤ j → j < a.size → bt a j = bt b j) : a.data.toList = b.data.toList := by
  have la : a.data.toList.length = a.size := Array.length_toList
  have lb : b.data.toList.length = b.size := Array.length_toList
  refine List.ext_getElem (by omega) (fun i h1 h2 => ?_)
  have e := h i (by omega) (by omega)
  rw [bt_nat a i h1, bt_nat b i h2] at e
  exact UInt8.toNat_inj.mp (by omega)
theorem same_is (a b : ByteArray) (ha : a.size ≤ 140737488351232 * 4) (hb : b.size ≤ 140737488351232 * 4) : ∀ k, max a.size b.size + 1 ≤ k → mac_Same.f k a b = some (a.toList == b.toList) := by
  intro k hk
  have hM : mx (a.size : Int) (b.size : Int) = ((max a.size b.size : Nat) : Int) := by unfold mx; split <;> omega
  have wa : IntKind.u64.wrap (a.size : Int) = a.size := by rw [wu64]; omega
  have wb : IntKind.u64.wrap (b.size : Int) = b.size := by rw [wu64]; omega
  have hx : bits .xor .u64 (a.size : Int) (b.size : Int) = ((a.size ^^^ b.size : Nat) : Int) := by rw [xor_u64 _ _ (by omega) (by omega) (by omega) (by omega)]; rfl
  have hlt := Nat.xor_lt_two_pow (x := a.size) (y := b.size) (n := 64) (by omega) (by omega)
  obtain ⟨r, h1, h2⟩ := same_loop a b (max a.size b.size : Nat) (by omega) (max a.size b.size) 0 ((a.size ^^^ b.size : Nat) : Int) (by omega) (by omega) (by omega)
  have hr : r = (a.toList == b.toList) := by
    rw [Bool.eq_iff_iff, h2, beq_iff_eq, toList_data, toList_data]
    constructor
    · rintro ⟨g1, g2⟩
      have hz := (xor_zero_iff a.size b.size).mp (by omega)
      exact same_bytes a b hz (fun j j0 j1 => g2 j j0 (by omega))
    · intro h
      have e : a = b := ByteArray.ext (Array.ext' h)
      subst e
      exact ⟨by rw [Nat.xor_self]; rfl, fun _ _ _ => rfl⟩
  have h0 : mac_Same.f (max a.size b.size + 1) a b = some (a.toList == b.toList) := by
    unfold mac_Same.f
    rw [wa, wb, hx, hM, h1, hr]
  clear h1 h2 hr
  induction k with
  | zero => omega
  | succ m ih =>
    rcases Nat.lt_or_ge m (max a.size b.size + 1) with h | h
    · rw [show m + 1 = max a.size b.size + 1 by omega]; exact h0
    · exact mac_Same.mono a b m _ (ih h)
theorem same_self (a : ByteArray) (ha : a.size ≤ 140737488351232 * 4) (k : Nat) (hk : a.size + 1 ≤ k) : mac_Same.f k a a = some true := by
  rw [same_is a a ha ha k (by omega)]; simp
theorem same_not (a b : ByteArray) (ha : a.size ≤ 140737488351232 * 4) (hb : b.size ≤ 140737488351232 * 4) (hne : a ≠ b) (k : Nat) (hk : max a.size b.size + 1 ≤ k) : mac_Same.f k a b = some false := by
  rw [same_is a b ha hb k hk]
  congr 1
  rw [Bool.eq_false_iff]
  intro he
  rw [beq_iff_eq, toList_data, toList_data] at he
  exact hne (ByteArray.ext (Array.ext' he))
/-- a text with one bit of one byte turned -/
def flip (a : ByteArray) (i : Nat) : ByteArray := strOfNums ((bytesOf a).set i (bits .xor .u8 (bt a i) 1))
theorem flip_size (a : ByteArray) (i : Nat) : (flip a i).size = a.size := by
  unfold flip
  rw [size_strOfNums, List.length_set, bytesOf_length]
theorem bt_nums (xs : List Int) (i : Nat) (h : i < xs.length) (hx : 0 ≤ xs[i] ∧ xs[i] < 256) : bt (strOfNums xs) i = xs[i] := by
  have hl : (strOfNums xs).data.toList.length = xs.length := by rw [Array.length_toList]; exact size_strOfNums xs
  rw [bt_nat _ i (by omega)]
  simp [strOfNums]
  omega
theorem flip_ne (a : ByteArray) (i : Nat) (h : i < a.size) : a ≠ flip a i := by
  intro e
  have hl : ((bytesOf a).set i (bits .xor .u8 (bt a i) 1)).length = a.size := by rw [List.length_set, bytesOf_length]
  have hr := bt_range a i
  have hx := xor_u8 (bt a i) 1 (by omega) (by omega) (by omega) (by omega)
  have h8 := Nat.xor_lt_two_pow (x := (bt a i).toNat) (y := (1 : Int).toNat) (n := 8) (by omega) (by omega)
  have hb : bt (flip a i) i = bits .xor .u8 (bt a i) 1 := by
    unfold flip
    rw [bt_nums _ i (by omega) (by rw [List.getElem_set_self, hx]; omega), List.getElem_set_self]
  rw [← e, hx] at hb
  have h1 : (bt a i).toNat ^^^ (1 : Int).toNat = (bt a i).toNat := by omega
  have h2 : (bt a i).toNat ^^^ ((bt a i).toNat ^^^ (1 : Int).toNat) = 0 := by rw [h1, Nat.xor_self]
  rw [← Nat.xor_assoc, Nat.xor_self, Nat.zero_xor] at h2
  exact absurd h2 (by decide)
theorem app_ne_r (a : ByteArray) : a ≠ a ++ (⟨#[0]⟩ : ByteArray) := fun e => by
  have h : a.size = (a ++ (⟨#[0]⟩ : ByteArray)).size := congrArg ByteArray.size e
  rw [ByteArray.size_append] at h
  have : (⟨#[0]⟩ : ByteArray).size = 1 := rfl
  omega
theorem app_ne_l (a : ByteArray) : (⟨#[0]⟩ : ByteArray) ++ a ≠ a := fun e => by
  have h : ((⟨#[0]⟩ : ByteArray) ++ a).size = a.size := congrArg ByteArray.size e
  rw [ByteArray.size_append] at h
  have : (⟨#[0]⟩ : ByteArray).size = 1 := rfl
  omega
theorem reads_set {W : World} {g n : Nat} {xs : List Int} (h : ReadsInt W .u8 (some ⟨g, 0, none⟩) n xs) (i : Nat) (hi : i < n) (v : Int) {old : Value} (hc : W.cell? ⟨g, i, none⟩ = some old) : ReadsInt (W.setCell ⟨g, i, none⟩ (.int .u8 v)) .u8 (some ⟨g, 0, none⟩) n (xs.set i v) := by
  refine ⟨by rw [List.length_set]; exact h.1, h.2.1, fun hp => ?_⟩
  obtain ⟨ad, e, hcell⟩ := h.2.2 hp
  obtain rfl := Option.some.inj e
  have hn := h.1
  refine ⟨_, rfl, fun j hj => ?_⟩
  have hc2 := hcell j hj
  rw [add_plain] at hc2 ⊢
  by_cases c : j = i
  · subst c
    rw [World.cell?_setCell_same _ _ _ hc]
    simp [List.getD_eq_getElem?_getD, List.getElem?_set, hn, hi]
  · rw [World.cell?_setCell_other _ _ _ _ (show (⟨g, i, none⟩ : Addr) ≠ ⟨g, j, none⟩ from fun e => c (by injection e with _ e2; exact e2.symm)), hc2]
    simp [List.getD_eq_getElem?_getD, List.getElem?_set, Ne.symm c]
end Go.Proofs.YtpbnfnaebdmagaaDoor.Ms
