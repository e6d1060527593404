/-
  What Text and GetText of package words, and their references, come to.
  What Fold and Unfold of package words, and of its reference, come to.
  Byte texts put one behind the other: what stands at a place of them.
-/
import Derived.Test.YtelhajoedlaohaaDoorPDx0
import Derived.Test.YtelhajoedlaohaaDoorPDx5
import Derived.Test.YtelhajoedlaohaaDoorPDx19
import Derived.Test.YtelhajoedlaohaaDoorWordsA
import Derived.Test.YtelhajoedlaohaaDoorPlain
-- printed by a program of this session out of the translation; see NOTES.md
namespace Go.Proofs.YtelhajoedlaohaaDoor.PD
open Go.RowKit Go.Proofs.YtelhajoedlaohaaDoorW.PrintWords Go.Proofs.YtelhajoedlaohaaDoorW.PrintLast Go.Proofs.YtelhajoedlaohaaDoorW.PrintMore
attribute [local go_sem] max2_int min2_int max_two min_two max_three min_three max_four min_four   -- for this text's walks alone
set_option linter.unusedVariables false
set_option linter.unusedSimpArgs false

/-! ### words_Fold: function 68 -/
def words_Fold.f (a0 : Int) : Option (Int) := some (Go.bits .xor .u64 (IntKind.u64.wrap (wrap64 (a0 * 2))) (IntKind.u64.wrap (a0 / 9223372036854775808)))
set_option maxHeartbeats 8000000 in
set_option maxRecDepth 100000 in
theorem words_Fold.calls (a0 : Int) (r : Int) (w : World) (h : words_Fold.f a0 = some r) :
    Calls Tryd.prog 68 #[.int .i64 a0] w fun e w' => e = .returned (.int .u64 r) ∧ Drawn0 w w' := by
  have H : (some (Go.bits .xor .u64 (IntKind.u64.wrap (wrap64 (a0 * 2))) (IntKind.u64.wrap (a0 / 9223372036854775808)))) = some r := h
  clear h
  obtain rfl := Option.some.inj H
  go_enter Tryd.func68, Tryd.ntmps68
  go_wp2
  go_ret
  exact ⟨by first | rfl | (simp; done) | (simp [*]; done), by repeat (first | exact Drawn0.refl _ | apply Drawn0.step)⟩

/-! ### words_Text: function 69 -/
def words_Text.f (k : Nat) (a0 : ByteArray) : Option (ByteArray × Int) := if (a0.size : Int) > 65535 then (some ((⟨#[]⟩ : ByteArray), 5)) else ((words_Put.f k 2 (IntKind.u64.wrap ((a0.size : Int)))).bind fun t108 => (if t108.size + a0.size ≤ 9223372036854775807 then (some (t108 ++ a0, 0)) else (none)))
theorem words_Text.mono : ∀ a0 k, LeO (words_Text.f k a0) (words_Text.f (k + 1) a0) := by
  intro a0 k
  unfold words_Text.f
  repeat' first
      | (with_reducible exact words_Put.mono _ _ _)
      | (with_reducible exact LeO.refl _)
      | (with_reducible exact LeO.none _)
      | (with_reducible refine LeO.ite ?_ ?_)
      | (with_reducible refine LeO.bind ?_ (fun _ => ?_))
      | exact words_Put.mono _ _ _
      | exact LeO.none _
      | refine LeO.ite ?_ ?_
      | refine LeO.bind ?_ (fun _ => ?_)
set_option maxHeartbeats 8000000 in
set_option maxRecDepth 100000 in
theorem words_Text.calls (k : Nat) (a0 : ByteArray) (r1 : ByteArray) (r2 : Int) (w : World) (h : words_Text.f k a0 = some (r1, r2)) :
    Calls Tryd.prog 69 #[.string a0] w fun e w' => e = .returned (.tuple #[.string r1, .int .i64 r2]) ∧ Below w.heap.size w w' := by
  have HB := Aside0.mk (Below.refl w.heap.size w)
  have H : (if (a0.size : Int) > 65535 then (some ((⟨#[]⟩ : ByteArray), 5)) else ((words_Put.f k 2 (IntKind.u64.wrap ((a0.size : Int)))).bind fun t108 => (if t108.size + a0.size ≤ 9223372036854775807 then (some (t108 ++ a0, 0)) else (none)))) = some (r1, r2) := h
  clear h
  by_cases c2 : (a0.size : Int) > 65535
  · rw [if_pos c2] at H
    have c2b0 : decide (65535 < (a0.size : Int)) = true := decide_eq_true c2
    have c2b1 : decide (65535 < a0.size) = true := decide_eq_true (by omega)
    clear c2
    simp only [Option.some.injEq, Prod.mk.injEq] at H
    obtain ⟨rfl, rfl⟩ := H
    go_enter Tryd.func69, Tryd.ntmps69
    go_wp2
    go_ret2
    exact ⟨by first | rfl | (simp [errW_none, errW_some] <;> rfl) | (simp [*, errW_none, errW_some] <;> rfl), by repeat (first | (with_reducible first | exact HB.out | apply below_alloc | apply pw_below_drewN | apply below_drew1) | exact HB.out)⟩
  · rw [if_neg c2] at H
    have c2b0 : decide (65535 < (a0.size : Int)) = false := decide_eq_false c2
    have c2b1 : decide (65535 < a0.size) = false := decide_eq_false (by omega)
    clear c2
    replace H := Option.bind_eq_some_iff.mp H
    obtain ⟨t108, A30, H⟩ := H
    replace H : (if t108.size + a0.size ≤ 9223372036854775807 then (some (t108 ++ a0, 0)) else (none)) = some (r1, r2) := H
    have A3 := Aside0.mk A30
    clear A30
    have hw_ : IntKind.u64.wrap ((a0.size : Int)) = (a0.size : Int) := by have hg_ := of_decide_eq_false c2b0; simp [IntKind.wrap, IntKind.bits, IntKind.signed]; omega
    rw [hw_] at A3
    clear hw_
    by_cases c4 : t108.size + a0.size ≤ 9223372036854775807
    · rw [if_pos c4] at H
      have c4b0 := eq_true c4
      have c4b1 : decide (t108.size + a0.size ≤ 9223372036854775807) = true := decide_eq_true c4
      try have c4b2 : (9223372036854775807 < t108.size + a0.size) = False := eq_false (Nat.not_lt.2 c4)
      simp only [Option.some.injEq, Prod.mk.injEq] at H
      obtain ⟨rfl, rfl⟩ := H
      go_enter Tryd.func69, Tryd.ntmps69
      go_wp2_with (first | ((with_reducible refine gate_callee (f := 35) rfl ?_); refine goesL_ (some 10) rfl rfl Tryd.func35 (by kernel_rfl) rfl #[.int .i64 2, .int .u64 ((a0.size : Int))] rfl (by (try simp only [List.map_toArray, List.map_cons, List.map_nil]); first | done | rfl | (simp only [List.length_drop, List.length_take]; rfl)) ?_; (with_reducible refine (words_Put.calls k 2 ((a0.size : Int)) t108 _ A3.out).mono ?_); rintro e w5 ⟨rfl, hb⟩; refine ⟨_, rfl, ?_⟩; have n0_ := Aside0.mk (below_step (by repeat (first | (with_reducible first | exact HB.out | apply below_alloc | apply pw_below_drewN | apply below_drew1) | exact HB.out)) hb); clear HB; have HB := n0_; clear n0_; (try clear hb); (try clear hb2); (try clear hk); (try clear hi)))
      go_ret2
      exact ⟨by first | rfl | (simp [errW_none, errW_some] <;> rfl) | (simp [*, errW_none, errW_some] <;> rfl), by repeat (first | (with_reducible first | exact HB.out | apply below_alloc | apply pw_below_drewN | apply below_drew1) | exact HB.out)⟩
    · rw [if_neg c4] at H
      exact absurd H (by simp)

-- NOT PRINTED: function 59 (pack_put)

end Go.Proofs.YtelhajoedlaohaaDoor.PD
-- printed by a program of this session out of the translation; see NOTES.md
namespace Go.Proofs.YtelhajoedlaohaaDoor.PD
open Go.RowKit Go.Proofs.YtelhajoedlaohaaDoorW.PrintWords Go.Proofs.YtelhajoedlaohaaDoorW.PrintLast Go.Proofs.YtelhajoedlaohaaDoorW.PrintMore
attribute [local go_sem] max2_int min2_int max_two min_two max_three min_three max_four min_four   -- for this text's walks alone
set_option linter.unusedVariables false
set_option linter.unusedSimpArgs false

/-! ### precinctref01_Text: function 71 -/
def precinctref01_Text.f (k : Nat) (a0 : ByteArray) : Option (ByteArray × Int) := if (a0.size : Int) > 65535 then (some ((⟨#[]⟩ : ByteArray), 5)) else ((precinctref01_Put.f k 2 (IntKind.u64.wrap ((a0.size : Int)))).bind fun t158 => (if t158.size + a0.size ≤ 9223372036854775807 then (some (t158 ++ a0, 0)) else (none)))
theorem precinctref01_Text.mono : ∀ a0 k, LeO (precinctref01_Text.f k a0) (precinctref01_Text.f (k + 1) a0) := by
  intro a0 k
  unfold precinctref01_Text.f
  repeat' first
      | (with_reducible exact precinctref01_Put.mono _ _ _)
      | (with_reducible exact LeO.refl _)
      | (with_reducible exact LeO.none _)
      | (with_reducible refine LeO.ite ?_ ?_)
      | (with_reducible refine LeO.bind ?_ (fun _ => ?_))
      | exact precinctref01_Put.mono _ _ _
      | exact LeO.none _
      | refine LeO.ite ?_ ?_
      | refine LeO.bind ?_ (fun _ => ?_)
set_option maxHeartbeats 8000000 in
set_option maxRecDepth 100000 in
theorem precinctref01_Text.calls (k : Nat) (a0 : ByteArray) (r1 : ByteArray) (r2 : Int) (w : World) (h : precinctref01_Text.f k a0 = some (r1, r2)) :
    Calls Tryd.prog 71 #[.string a0] w fun e w' => e = .returned (.tuple #[.string r1, .int .i64 r2]) ∧ Below w.heap.size w w' := by
  have HB := Aside0.mk (Below.refl w.heap.size w)
  have H : (if (a0.size : Int) > 65535 then (some ((⟨#[]⟩ : ByteArray), 5)) else ((precinctref01_Put.f k 2 (IntKind.u64.wrap ((a0.size : Int)))).bind fun t158 => (if t158.size + a0.size ≤ 9223372036854775807 then (some (t158 ++ a0, 0)) else (none)))) = some (r1, r2) := h
  clear h
  by_cases c2 : (a0.size : Int) > 65535
  · rw [if_pos c2] at H
    have c2b0 : decide (65535 < (a0.size : Int)) = true := decide_eq_true c2
    have c2b1 : decide (65535 < a0.size) = true := decide_eq_true (by omega)
    clear c2
    simp only [Option.some.injEq, Prod.mk.injEq] at H
    obtain ⟨rfl, rfl⟩ := H
    go_enter Tryd.func71, Tryd.ntmps71
    go_wp2
    go_ret2
    exact ⟨by first | rfl | (simp [errW_none, errW_some] <;> rfl) | (simp [*, errW_none, errW_some] <;> rfl), by repeat (first | (with_reducible first | exact HB.out | apply below_alloc | apply pw_below_drewN | apply below_drew1) | exact HB.out)⟩
  · rw [if_neg c2] at H
    have c2b0 : decide (65535 < (a0.size : Int)) = false := decide_eq_false c2
    have c2b1 : decide (65535 < a0.size) = false := decide_eq_false (by omega)
    clear c2
    replace H := Option.bind_eq_some_iff.mp H
    obtain ⟨t158, A30, H⟩ := H
    replace H : (if t158.size + a0.size ≤ 9223372036854775807 then (some (t158 ++ a0, 0)) else (none)) = some (r1, r2) := H
    have A3 := Aside0.mk A30
    clear A30
    have hw_ : IntKind.u64.wrap ((a0.size : Int)) = (a0.size : Int) := by have hg_ := of_decide_eq_false c2b0; simp [IntKind.wrap, IntKind.bits, IntKind.signed]; omega
    rw [hw_] at A3
    clear hw_
    by_cases c4 : t158.size + a0.size ≤ 9223372036854775807
    · rw [if_pos c4] at H
      have c4b0 := eq_true c4
      have c4b1 : decide (t158.size + a0.size ≤ 9223372036854775807) = true := decide_eq_true c4
      try have c4b2 : (9223372036854775807 < t158.size + a0.size) = False := eq_false (Nat.not_lt.2 c4)
      simp only [Option.some.injEq, Prod.mk.injEq] at H
      obtain ⟨rfl, rfl⟩ := H
      go_enter Tryd.func71, Tryd.ntmps71
      go_wp2_with (first | ((with_reducible refine gate_callee (f := 62) rfl ?_); refine goesL_ (some 11) rfl rfl Tryd.func62 (by kernel_rfl) rfl #[.int .i64 2, .int .u64 ((a0.size : Int))] rfl (by (try simp only [List.map_toArray, List.map_cons, List.map_nil]); first | done | rfl | (simp only [List.length_drop, List.length_take]; rfl)) ?_; (with_reducible refine (precinctref01_Put.calls k 2 ((a0.size : Int)) t158 _ A3.out).mono ?_); rintro e w5 ⟨rfl, hb⟩; refine ⟨_, rfl, ?_⟩; have n0_ := Aside0.mk (below_step (by repeat (first | (with_reducible first | exact HB.out | apply below_alloc | apply pw_below_drewN | apply below_drew1) | exact HB.out)) hb); clear HB; have HB := n0_; clear n0_; (try clear hb); (try clear hb2); (try clear hk); (try clear hi)))
      go_ret2
      exact ⟨by first | rfl | (simp [errW_none, errW_some] <;> rfl) | (simp [*, errW_none, errW_some] <;> rfl), by repeat (first | (with_reducible first | exact HB.out | apply below_alloc | apply pw_below_drewN | apply below_drew1) | exact HB.out)⟩
    · rw [if_neg c4] at H
      exact absurd H (by simp)

end Go.Proofs.YtelhajoedlaohaaDoor.PD
-- printed by a program of this session out of the translation; see NOTES.md
namespace Go.Proofs.YtelhajoedlaohaaDoor.PD
open Go.RowKit Go.Proofs.YtelhajoedlaohaaDoorW.PrintWords Go.Proofs.YtelhajoedlaohaaDoorW.PrintLast Go.Proofs.YtelhajoedlaohaaDoorW.PrintMore
attribute [local go_sem] max2_int min2_int max_two min_two max_three min_three max_four min_four   -- for this text's walks alone
set_option linter.unusedVariables false
set_option linter.unusedSimpArgs false

/-! ### precinctref01_Fold: function 73 -/
def precinctref01_Fold.f (a0 : Int) : Option (Int) := if a0 ≥ 0 then (some (IntKind.u64.wrap (2 * (IntKind.u64.wrap (a0))))) else (some (IntKind.u64.wrap ((IntKind.u64.wrap (2 * (IntKind.u64.wrap (wrap64 (-(wrap64 (a0 + 1))))))) + 1)))
set_option maxHeartbeats 8000000 in
set_option maxRecDepth 100000 in
theorem precinctref01_Fold.calls (a0 : Int) (r : Int) (w : World) (h : precinctref01_Fold.f a0 = some r) :
    Calls Tryd.prog 73 #[.int .i64 a0] w fun e w' => e = .returned (.int .u64 r) ∧ Drawn0 w w' := by
  have H : (if a0 ≥ 0 then (some (IntKind.u64.wrap (2 * (IntKind.u64.wrap (a0))))) else (some (IntKind.u64.wrap ((IntKind.u64.wrap (2 * (IntKind.u64.wrap (wrap64 (-(wrap64 (a0 + 1))))))) + 1)))) = some r := h
  clear h
  by_cases c2 : a0 ≥ 0
  · rw [if_pos c2] at H
    have c2b0 : decide (0 ≤ a0) = true := decide_eq_true c2
    clear c2
    obtain rfl := Option.some.inj H
    go_enter Tryd.func73, Tryd.ntmps73
    go_wp2
    go_ret
    exact ⟨by first | rfl | (simp; done) | (simp [*]; done), by repeat (first | exact Drawn0.refl _ | apply Drawn0.step)⟩
  · rw [if_neg c2] at H
    have c2b0 : decide (0 ≤ a0) = false := decide_eq_false c2
    clear c2
    obtain rfl := Option.some.inj H
    go_enter Tryd.func73, Tryd.ntmps73
    go_wp2
    go_ret
    exact ⟨by first | rfl | (simp; done) | (simp [*]; done), by repeat (first | exact Drawn0.refl _ | apply Drawn0.step)⟩

end Go.Proofs.YtelhajoedlaohaaDoor.PD
namespace Go.Proofs.YtelhajoedlaohaaDoor.WordsA
set_option linter.unusedVariables false
set_option linter.unusedSimpArgs false
open Go Go.RowKit Go.Proofs.YtelhajoedlaohaaDoor.Plain Go.Proofs.YtelhajoedlaohaaDoor.PD Go.Proofs.YtelhajoedlaohaaDoorW.PrintWords Go.Proofs.YtelhajoedlaohaaDoorW.PrintLast Go.Proofs.YtelhajoedlaohaaDoorW.PrintMore
/-- what Text answers -/
def textR (s : ByteArray) : ByteArray × Int := if (s.size : Int) > 65535 then (⟨#[]⟩, 5) else (put 2 s.size ++ s, 0)
/-- what GetText answers -/
def gtextR (s : ByteArray) (a : Int) : ByteArray × Int × Int :=
  if (getR s a 2).2.2 = 0 then (if (s.size : Int) - (getR s a 2).2.1 < (getR s a 2).1 then (⟨#[]⟩, 0, 3)
    else (s.extract (getR s a 2).2.1.toNat ((getR s a 2).2.1 + (getR s a 2).1).toNat, (getR s a 2).2.1 + (getR s a 2).1, 0))
  else (⟨#[]⟩, 0, (getR s a 2).2.2)
theorem text_some {s : ByteArray} (k : Nat) (hs : s.size ≤ 140737488351232 * 4) (hk : 10 ≤ k) : words_Text.f k s = some (textR s) := by
  unfold words_Text.f textR
  by_cases h : (s.size : Int) > 65535
  · rw [if_pos h, if_pos h]
  · rw [if_neg h, if_neg h, wu64, Int.emod_eq_of_lt (by omega) (by omega), put_some k (by omega) (by omega) hk]
    simp only [Option.bind_some]
    rw [if_pos (by rw [size_put]; omega)]
theorem rtext_some {s : ByteArray} (k : Nat) (hs : s.size ≤ 140737488351232 * 4) (hk : 10 ≤ k) : precinctref01_Text.f k s = some (textR s) := by
  unfold precinctref01_Text.f textR
  by_cases h : (s.size : Int) > 65535
  · rw [if_pos h, if_pos h]
  · rw [if_neg h, if_neg h, wu64, Int.emod_eq_of_lt (by omega) (by omega), rput_some k (by omega) (by omega) hk]
    simp only [Option.bind_some]
    rw [if_pos (by rw [size_put]; omega)]
theorem getR2 (s : ByteArray) (a : Int) : (getR s a 2).2.2 = 0 → 0 ≤ a ∧ a + 2 ≤ s.size ∧ getR s a 2 = (gets s a 2, a + 2, 0) ∧ 0 ≤ gets s a 2 ∧ gets s a 2 < 65536 := by
  unfold getR
  by_cases h : (2 : Int) < 1 ∨ (2 : Int) > 8 ∨ a < 0 ∨ a > s.size
  · rw [if_pos h]; intro h; simp at h
  · rw [if_neg h]
    by_cases g : (s.size : Int) - a < 2
    · rw [if_pos g]; intro h; simp at h
    · rw [if_neg g]; intro _
      have := gets_lt s a 2
      exact ⟨by omega, by omega, rfl, this.1, by have := this.2; simpa using this⟩
end Go.Proofs.YtelhajoedlaohaaDoor.WordsA
namespace Go.Proofs.YtelhajoedlaohaaDoor.WordsA
set_option linter.unusedVariables false
set_option linter.unusedSimpArgs false
open Go Go.RowKit Go.Proofs.YtelhajoedlaohaaDoor.Plain Go.Proofs.YtelhajoedlaohaaDoor.PD Go.Proofs.YtelhajoedlaohaaDoorW.PrintWords Go.Proofs.YtelhajoedlaohaaDoorW.PrintLast Go.Proofs.YtelhajoedlaohaaDoorW.PrintMore
theorem fold_some {n : Int} (h0 : -9223372036854775808 ≤ n) (h1 : n ≤ 9223372036854775807) : words_Fold.f n = some (if 0 ≤ n then 2 * n else -2 * n - 1) := by
  unfold words_Fold.f
  rw [wu64, wu64]
  by_cases h : 0 ≤ n
  · rw [if_pos h, show n / 9223372036854775808 % 18446744073709551616 = 0 by omega, xor64_zero _ (by omega) (by omega)]
    unfold wrap64; congr 1; omega
  · rw [if_neg h, show n / 9223372036854775808 % 18446744073709551616 = 18446744073709551615 by omega, xor64_ones _ (by omega) (by omega)]
    unfold wrap64; congr 1; omega
theorem rfold_some {n : Int} (h0 : -9223372036854775808 ≤ n) (h1 : n ≤ 9223372036854775807) : precinctref01_Fold.f n = some (if 0 ≤ n then 2 * n else -2 * n - 1) := by
  unfold precinctref01_Fold.f
  simp only [wu64]
  by_cases h : 0 ≤ n
  · rw [if_pos h, if_pos h]; congr 1; omega
  · rw [if_neg h, if_neg h]; unfold wrap64; congr 1; omega
end Go.Proofs.YtelhajoedlaohaaDoor.WordsA
namespace Go.Proofs.YtelhajoedlaohaaDoor.Plain
set_option linter.unusedVariables false
set_option linter.unusedSimpArgs false
open Go Go.RowKit Go.Proofs.YtelhajoedlaohaaDoorW.PrintWords Go.Proofs.YtelhajoedlaohaaDoorW.PrintLast Go.Proofs.YtelhajoedlaohaaDoorW.PrintMore
theorem bt_data (s : ByteArray) (i : Nat) (h : i < s.size) : bt s i = ((s.data.toList.getD i 0).toNat : Int) := by
  unfold bt
  have hl : s.data.toList.length = s.size := Array.length_toList
  have e : (i : Int).toNat = i := by omega
  rw [dif_pos (by omega)]
  simp only [e]
  rw [List.getD_eq_getElem?_getD, List.getElem?_eq_getElem (by omega)]
  rfl
theorem data_append (A B : ByteArray) : (A ++ B).data.toList = A.data.toList ++ B.data.toList := by
  rw [ByteArray.data_append, Array.toList_append]
theorem bt_right (A B : ByteArray) (i : Nat) (h : i < B.size) : bt (A ++ B) ((A.size : Int) + i) = bt B i := by
  have e : (A.size : Int) + i = ((A.size + i : Nat) : Int) := by omega
  rw [e, bt_data _ _ (by rw [ByteArray.size_append]; omega), bt_data _ _ h, data_append]
  have hl : A.data.toList.length = A.size := Array.length_toList
  rw [List.getD_eq_getElem?_getD, List.getD_eq_getElem?_getD, List.getElem?_append_right (by omega), show A.size + i - A.data.toList.length = i by omega]
theorem bt_left (A B : ByteArray) (i : Nat) (h : i < A.size) : bt (A ++ B) i = bt A i := by
  rw [bt_data _ _ (by rw [ByteArray.size_append]; omega), bt_data _ _ h, data_append]
  have hl : A.data.toList.length = A.size := Array.length_toList
  rw [List.getD_eq_getElem?_getD, List.getD_eq_getElem?_getD, List.getElem?_append_left (by omega)]
theorem bt_nums (xs : List Int) (i : Nat) (h : i < xs.length) (hx : ∀ x ∈ xs, 0 ≤ x ∧ x < 256) : bt (strOfNums xs) i = xs.getD i 0 := by
  rw [bt_data _ _ (by rw [size_strOfNums]; exact h)]
  have e : (strOfNums xs).data.toList = xs.map fun n => UInt8.ofNat n.toNat := rfl
  have hm := hx (xs[i]) (List.getElem_mem h)
  rw [e, List.getD_eq_getElem?_getD, List.getElem?_map, List.getElem?_eq_getElem h, List.getD_eq_getElem?_getD, List.getElem?_eq_getElem h]
  simp only [Option.map_some, Option.getD_some, UInt8.toNat_ofNat']
  omega
theorem puts_byte (w : Nat) : ∀ (n : Int), ∀ x ∈ puts w n, 0 ≤ x ∧ x < 256 := by
  induction w with
  | zero => intro n x h; cases h
  | succ w ih =>
    intro n x h
    rcases List.mem_append.1 h with h | h
    · exact ih _ x h
    · rw [List.mem_singleton.1 h]; omega
theorem puts_at (w : Nat) : ∀ (n : Int) (i : Nat), i < w → (puts w n).getD i 0 = n / 256 ^ (w - 1 - i) % 256 := by
  induction w with
  | zero => intro n i h; omega
  | succ w ih =>
    intro n i h
    rw [puts_front]
    cases i with
    | zero => simp
    | succ i =>
      rw [List.getD_cons_succ, ih n i (by omega)]
      congr 3; omega
theorem mod_step (m : Int) (i : Nat) (h : 0 ≤ m) : m % 256 ^ (i + 1) = m / 256 % 256 ^ i * 256 + m % 256 := by
  obtain ⟨n, rfl⟩ := Int.eq_ofNat_of_zero_le h
  have := @Nat.mod_mul 256 (256 ^ i) n
  have e : (256 : Nat) ^ (i + 1) = 256 * 256 ^ i := by rw [Nat.pow_succ, Nat.mul_comm]
  rw [← e] at this
  have g : ((n % 256 ^ (i + 1) : Nat) : Int) = ((n % 256 + 256 * (n / 256 % 256 ^ i) : Nat) : Int) := by rw [this]
  simp at g
  rw [g]; omega
theorem gets_puts (A R : ByteArray) (w : Nat) (n : Int) (h : 0 ≤ n) : ∀ i, i ≤ w → gets (A ++ (strOfNums (puts w n) ++ R)) A.size i = n / 256 ^ (w - i) % 256 ^ i := by
  intro i
  induction i with
  | zero => intro _; simp [gets, Int.emod_one]
  | succ i ih =>
    intro hi
    have hs : (strOfNums (puts w n)).size = w := by rw [size_strOfNums, puts_length]
    have hp : (0 : Int) ≤ 256 ^ (w - (i + 1)) := Int.le_of_lt (Int.pow_pos (by decide))
    have hm : 0 ≤ n / 256 ^ (w - (i + 1)) := Int.ediv_nonneg h hp
    rw [gets, ih (by omega), bt_right _ _ _ (by rw [ByteArray.size_append]; omega), bt_left _ _ _ (by omega), bt_nums _ _ (by rw [puts_length]; omega) (puts_byte w n), puts_at w n i (by omega), mod_step _ _ hm, Int.ediv_ediv_of_nonneg hp, ← Int.pow_succ, show (w - (i + 1)).succ = w - i by omega, show w - 1 - i = w - (i + 1) by omega]
/-- a number that was put stands there -/
theorem get_put (A R : ByteArray) (w n : Int) (h : 0 ≤ n) (w0 : 1 ≤ w) (w1 : w ≤ 8) : getR (A ++ (put w n ++ R)) A.size w = (n % 256 ^ w.toNat, A.size + w, 0) := by
  have z : (put w n).size = w.toNat := by rw [size_put]; omega
  unfold getR
  rw [if_neg (by rw [ByteArray.size_append]; omega), if_neg (by rw [ByteArray.size_append, ByteArray.size_append]; omega)]
  unfold put
  rw [show (max 0 (min w 8)).toNat = w.toNat by omega, gets_puts A R w.toNat n h w.toNat (Nat.le_refl _)]
  simp
theorem cut_mid (A B C : ByteArray) : (A ++ (B ++ C)).extract A.size (A.size + B.size) = B := by
  apply ByteArray.ext
  rw [ByteArray.data_extract, ByteArray.data_append, ByteArray.data_append]
  apply Array.ext'
  have ha : A.data.toList.length = A.size := Array.length_toList
  have hb : B.data.toList.length = B.size := Array.length_toList
  simp only [Array.toList_extract, Array.toList_append, List.extract_eq_take_drop]
  rw [List.drop_left' ha, show A.size + B.size - A.size = B.size by omega, List.take_left' hb]
end Go.Proofs.YtelhajoedlaohaaDoor.Plain
