-- printed by a program of this session out of the translation; see NOTES.md
import Derived.Test.YtfccgiccllnkkaaPXx0
import Derived.Test.YtfccgiccllnkkaaPXx2
import Derived.Test.YtfccgiccllnkkaaPXx3
import Derived.Test.YtfccgiccllnkkaaPXx4
namespace Go.Proofs.Ytfccgiccllnkkaa.PX
open Go.RowKit Go.Proofs.YtfccgiccllnkkaaW.PrintWords Go.Proofs.YtfccgiccllnkkaaW.PrintLast Go.Proofs.YtfccgiccllnkkaaW.PrintMore
attribute [local go_sem] max2_int min2_int max_two min_two max_three min_three max_four min_four   -- for this text's walks alone
set_option linter.unusedVariables false
set_option linter.unusedSimpArgs false

/-! ### precinctlaw01_WordsBack: function 11 -/
mutual
def precinctlaw01_WordsBack.l0 : Nat → List Int → List ByteArray → ByteArray → List Int → Int → Int → Option (Bool)
  | 0, _, _, _, _, _, _ => none
  | k + 1, x0, x1, x5, x33, x34, x35 => if x35 < x34 then (if 0 ≤ x35 then (if x35 < (x33.length : Int) then ((words_Put.f k (wrap64 (1 + (Int.tmod x35 8))) (rd x33 x35)).bind fun t177 => (if x5.size + t177.size ≤ 9223372036854775807 then (precinctlaw01_WordsBack.l0 k x0 x1 (x5 ++ t177) x33 x34 (wrap64 (x35 + 1))) else (none))) else (none)) else (none)) else (precinctlaw01_WordsBack.l1 k x0 x1 x5 x1 (x1.length : Int) 0)
def precinctlaw01_WordsBack.l1 : Nat → List Int → List ByteArray → ByteArray → List ByteArray → Int → Int → Option (Bool)
  | 0, _, _, _, _, _, _ => none
  | k + 1, x0, x1, x5, x48, x49, x50 => if x50 < x49 then (if 0 ≤ x50 then (if x50 < (x48.length : Int) then (if 0 ≤ (mn ((rdOf ByteArray.empty x48 x50).size : Int) 1000) then (if (mn ((rdOf ByteArray.empty x48 x50).size : Int) 1000) ≤ ((rdOf ByteArray.empty x48 x50).size : Int) then ((words_Text.f k ((rdOf ByteArray.empty x48 x50).extract 0 ((mn ((rdOf ByteArray.empty x48 x50).size : Int) 1000) : Int).toNat)).bind fun bt179 => (if bt179.2 = 0 then (if x5.size + bt179.1.size ≤ 9223372036854775807 then (precinctlaw01_WordsBack.l1 k x0 x1 (x5 ++ bt179.1) x48 x49 (wrap64 (x50 + 1))) else (none)) else (some false))) else (none)) else (none)) else (none)) else (none)) else (precinctlaw01_WordsBack.l2 k x1 x5 0 x0 (x0.length : Int) 0)
def precinctlaw01_WordsBack.l2 : Nat → List ByteArray → ByteArray → Int → List Int → Int → Int → Option (Bool)
  | 0, _, _, _, _, _, _ => none
  | k + 1, x1, x5, x12, x69, x70, x71 => if x71 < x70 then (if 0 ≤ x71 then (if x71 < (x69.length : Int) then ((words_Get.f k x5 x12 (wrap64 (1 + (Int.tmod x71 8)))).bind fun bt182 => (if bt182.2.2 = 0 then ((words_Bits.f k (rd x69 x71) 0 (wrap64 (8 * (wrap64 (1 + (Int.tmod x71 8)))))).bind fun t185 => (if bt182.1 = t185 then (precinctlaw01_WordsBack.l2 k x1 x5 bt182.2.1 x69 x70 (wrap64 (x71 + 1))) else (some false))) else (some false))) else (none)) else (none)) else (precinctlaw01_WordsBack.l3 k x5 x12 x1 (x1.length : Int) 0)
def precinctlaw01_WordsBack.l3 : Nat → ByteArray → Int → List ByteArray → Int → Int → Option (Bool)
  | 0, _, _, _, _, _ => none
  | k + 1, x5, x12, x100, x101, x102 => if x102 < x101 then (if 0 ≤ x102 then (if x102 < (x100.length : Int) then ((words_GetText.f k x5 x12).bind fun bt187 => (if bt187.2.2 = 0 then (if 0 ≤ (mn ((rdOf ByteArray.empty x100 x102).size : Int) 1000) then (if (mn ((rdOf ByteArray.empty x100 x102).size : Int) 1000) ≤ ((rdOf ByteArray.empty x100 x102).size : Int) then (if bt187.1.toList = ((rdOf ByteArray.empty x100 x102).extract 0 ((mn ((rdOf ByteArray.empty x100 x102).size : Int) 1000) : Int).toNat).toList then (precinctlaw01_WordsBack.l3 k x5 bt187.2.1 x100 x101 (wrap64 (x102 + 1))) else (some false)) else (none)) else (none)) else (some false))) else (none)) else (none)) else ((precinctlaw01_wakes.f k).bind fun t190 => (if t190 = true then (some (x12 == (x5.size : Int))) else (some false)))
end
def precinctlaw01_WordsBack.f (k : Nat) (l0 : List Int) (l1 : List ByteArray) : Option (Bool) := if 0 ≤ (mn (l0.length : Int) 30) then (if (mn (l0.length : Int) 30) ≤ (l0.length : Int) then (if 0 ≤ (mn (l1.length : Int) 30) then (if (mn (l1.length : Int) 30) ≤ (l1.length : Int) then (precinctlaw01_WordsBack.l0 k (l0.take ((mn (l0.length : Int) 30) : Int).toNat) (l1.take ((mn (l1.length : Int) 30) : Int).toNat) (⟨#[]⟩ : ByteArray) (l0.take ((mn (l0.length : Int) 30) : Int).toNat) ((l0.take ((mn (l0.length : Int) 30) : Int).toNat).length : Int) 0) else (none)) else (none)) else (none)) else (none)
theorem precinctlaw01_WordsBack.mono_l : ∀ k, (∀ y0 y1 y2 y3 y4 y5, LeO (precinctlaw01_WordsBack.l0 k y0 y1 y2 y3 y4 y5) (precinctlaw01_WordsBack.l0 (k + 1) y0 y1 y2 y3 y4 y5)) ∧ (∀ y0 y1 y2 y3 y4 y5, LeO (precinctlaw01_WordsBack.l1 k y0 y1 y2 y3 y4 y5) (precinctlaw01_WordsBack.l1 (k + 1) y0 y1 y2 y3 y4 y5)) ∧ (∀ y0 y1 y2 y3 y4 y5, LeO (precinctlaw01_WordsBack.l2 k y0 y1 y2 y3 y4 y5) (precinctlaw01_WordsBack.l2 (k + 1) y0 y1 y2 y3 y4 y5)) ∧ (∀ y0 y1 y2 y3 y4, LeO (precinctlaw01_WordsBack.l3 k y0 y1 y2 y3 y4) (precinctlaw01_WordsBack.l3 (k + 1) y0 y1 y2 y3 y4))
  | 0 => ⟨fun _ _ _ _ _ _ r h => by simp [precinctlaw01_WordsBack.l0] at h, fun _ _ _ _ _ _ r h => by simp [precinctlaw01_WordsBack.l1] at h, fun _ _ _ _ _ _ r h => by simp [precinctlaw01_WordsBack.l2] at h, fun _ _ _ _ _ r h => by simp [precinctlaw01_WordsBack.l3] at h⟩
  | k + 1 => by
    obtain ⟨ih0, ih1, ih2, ih3⟩ := precinctlaw01_WordsBack.mono_l k
    refine ⟨?_, ?_, ?_, ?_⟩
    · intro y0 y1 y2 y3 y4 y5
      unfold precinctlaw01_WordsBack.l0
      repeat' first
      | (with_reducible exact ih0 _ _ _ _ _ _)
      | (with_reducible exact ih1 _ _ _ _ _ _)
      | (with_reducible exact ih2 _ _ _ _ _ _)
      | (with_reducible exact ih3 _ _ _ _ _)
      | (with_reducible exact precinctlaw01_wakes.mono _)
      | (with_reducible exact words_Bits.mono _ _ _ _)
      | (with_reducible exact words_Get.mono _ _ _ _)
      | (with_reducible exact words_GetText.mono _ _ _)
      | (with_reducible exact words_Put.mono _ _ _)
      | (with_reducible exact words_Text.mono _ _)
      | (with_reducible exact LeO.refl _)
      | (with_reducible exact LeO.none _)
      | (with_reducible refine LeO.ite ?_ ?_)
      | (with_reducible refine LeO.bind ?_ (fun _ => ?_))
      | exact ih0 _ _ _ _ _ _
      | exact ih1 _ _ _ _ _ _
      | exact ih2 _ _ _ _ _ _
      | exact ih3 _ _ _ _ _
      | exact precinctlaw01_wakes.mono _
      | exact words_Bits.mono _ _ _ _
      | exact words_Get.mono _ _ _ _
      | exact words_GetText.mono _ _ _
      | exact words_Put.mono _ _ _
      | exact words_Text.mono _ _
      | exact LeO.none _
      | refine LeO.ite ?_ ?_
      | refine LeO.bind ?_ (fun _ => ?_)
    · intro y0 y1 y2 y3 y4 y5
      unfold precinctlaw01_WordsBack.l1
      repeat' first
      | (with_reducible exact ih0 _ _ _ _ _ _)
      | (with_reducible exact ih1 _ _ _ _ _ _)
      | (with_reducible exact ih2 _ _ _ _ _ _)
      | (with_reducible exact ih3 _ _ _ _ _)
      | (with_reducible exact precinctlaw01_wakes.mono _)
      | (with_reducible exact words_Bits.mono _ _ _ _)
      | (with_reducible exact words_Get.mono _ _ _ _)
      | (with_reducible exact words_GetText.mono _ _ _)
      | (with_reducible exact words_Put.mono _ _ _)
      | (with_reducible exact words_Text.mono _ _)
      | (with_reducible exact LeO.refl _)
      | (with_reducible exact LeO.none _)
      | (with_reducible refine LeO.ite ?_ ?_)
      | (with_reducible refine LeO.bind ?_ (fun _ => ?_))
      | exact ih0 _ _ _ _ _ _
      | exact ih1 _ _ _ _ _ _
      | exact ih2 _ _ _ _ _ _
      | exact ih3 _ _ _ _ _
      | exact precinctlaw01_wakes.mono _
      | exact words_Bits.mono _ _ _ _
      | exact words_Get.mono _ _ _ _
      | exact words_GetText.mono _ _ _
      | exact words_Put.mono _ _ _
      | exact words_Text.mono _ _
      | exact LeO.none _
      | refine LeO.ite ?_ ?_
      | refine LeO.bind ?_ (fun _ => ?_)
    · intro y0 y1 y2 y3 y4 y5
      unfold precinctlaw01_WordsBack.l2
      repeat' first
      | (with_reducible exact ih0 _ _ _ _ _ _)
      | (with_reducible exact ih1 _ _ _ _ _ _)
      | (with_reducible exact ih2 _ _ _ _ _ _)
      | (with_reducible exact ih3 _ _ _ _ _)
      | (with_reducible exact precinctlaw01_wakes.mono _)
      | (with_reducible exact words_Bits.mono _ _ _ _)
      | (with_reducible exact words_Get.mono _ _ _ _)
      | (with_reducible exact words_GetText.mono _ _ _)
      | (with_reducible exact words_Put.mono _ _ _)
      | (with_reducible exact words_Text.mono _ _)
      | (with_reducible exact LeO.refl _)
      | (with_reducible exact LeO.none _)
      | (with_reducible refine LeO.ite ?_ ?_)
      | (with_reducible refine LeO.bind ?_ (fun _ => ?_))
      | exact ih0 _ _ _ _ _ _
      | exact ih1 _ _ _ _ _ _
      | exact ih2 _ _ _ _ _ _
      | exact ih3 _ _ _ _ _
      | exact precinctlaw01_wakes.mono _
      | exact words_Bits.mono _ _ _ _
      | exact words_Get.mono _ _ _ _
      | exact words_GetText.mono _ _ _
      | exact words_Put.mono _ _ _
      | exact words_Text.mono _ _
      | exact LeO.none _
      | refine LeO.ite ?_ ?_
      | refine LeO.bind ?_ (fun _ => ?_)
    · intro y0 y1 y2 y3 y4
      unfold precinctlaw01_WordsBack.l3
      repeat' first
      | (with_reducible exact ih0 _ _ _ _ _ _)
      | (with_reducible exact ih1 _ _ _ _ _ _)
      | (with_reducible exact ih2 _ _ _ _ _ _)
      | (with_reducible exact ih3 _ _ _ _ _)
      | (with_reducible exact precinctlaw01_wakes.mono _)
      | (with_reducible exact words_Bits.mono _ _ _ _)
      | (with_reducible exact words_Get.mono _ _ _ _)
      | (with_reducible exact words_GetText.mono _ _ _)
      | (with_reducible exact words_Put.mono _ _ _)
      | (with_reducible exact words_Text.mono _ _)
      | (with_reducible exact LeO.refl _)
      | (with_reducible exact LeO.none _)
      | (with_reducible refine LeO.ite ?_ ?_)
      | (with_reducible refine LeO.bind ?_ (fun _ => ?_))
      | exact ih0 _ _ _ _ _ _
      | exact ih1 _ _ _ _ _ _
      | exact ih2 _ _ _ _ _ _
      | exact ih3 _ _ _ _ _
      | exact precinctlaw01_wakes.mono _
      | exact words_Bits.mono _ _ _ _
      | exact words_Get.mono _ _ _ _
      | exact words_GetText.mono _ _ _
      | exact words_Put.mono _ _ _
      | exact words_Text.mono _ _
      | exact LeO.none _
      | refine LeO.ite ?_ ?_
      | refine LeO.bind ?_ (fun _ => ?_)
theorem precinctlaw01_WordsBack.mono : ∀ a0 a1 k, LeO (precinctlaw01_WordsBack.f k a0 a1) (precinctlaw01_WordsBack.f (k + 1) a0 a1) := by
  intro a0 a1 k
  obtain ⟨ih0, ih1, ih2, ih3⟩ := precinctlaw01_WordsBack.mono_l k
  unfold precinctlaw01_WordsBack.f
  repeat' first
      | (with_reducible exact ih0 _ _ _ _ _ _)
      | (with_reducible exact ih1 _ _ _ _ _ _)
      | (with_reducible exact ih2 _ _ _ _ _ _)
      | (with_reducible exact ih3 _ _ _ _ _)
      | (with_reducible exact precinctlaw01_wakes.mono _)
      | (with_reducible exact words_Bits.mono _ _ _ _)
      | (with_reducible exact words_Get.mono _ _ _ _)
      | (with_reducible exact words_GetText.mono _ _ _)
      | (with_reducible exact words_Put.mono _ _ _)
      | (with_reducible exact words_Text.mono _ _)
      | (with_reducible exact LeO.refl _)
      | (with_reducible exact LeO.none _)
      | (with_reducible refine LeO.ite ?_ ?_)
      | (with_reducible refine LeO.bind ?_ (fun _ => ?_))
      | exact ih0 _ _ _ _ _ _
      | exact ih1 _ _ _ _ _ _
      | exact ih2 _ _ _ _ _ _
      | exact ih3 _ _ _ _ _
      | exact precinctlaw01_wakes.mono _
      | exact words_Bits.mono _ _ _ _
      | exact words_Get.mono _ _ _ _
      | exact words_GetText.mono _ _ _
      | exact words_Put.mono _ _ _
      | exact words_Text.mono _ _
      | exact LeO.none _
      | refine LeO.ite ?_ ?_
      | refine LeO.bind ?_ (fun _ => ?_)
set_option maxHeartbeats 8000000 in
set_option maxRecDepth 100000 in
theorem precinctlaw01_WordsBack.calls (k : Nat) (A0 : Option Addr) (c0 : Nat) (l0 : List Int) (A1 : Option Addr) (c1 : Nat) (l1 : List ByteArray) (r : Bool) (w : World) (hr0 : Kd.C (Kd.int .u64) w A0 l0.length l0) (hc0 : l0.length ≤ c0) (hr1 : Kd.C Kd.string w A1 l1.length l1) (hc1 : l1.length ≤ c1) (hT_ : Aside0 (r = true)) (h : precinctlaw01_WordsBack.f k l0 l1 = some r) :
    Calls Try.prog 11 #[.slice A0 l0.length c0, .slice A1 l1.length c1] w fun e w' => e = .returned (.bool r) ∧ Below w.heap.size w w' := by
  have HR0 := Aside0.mk hr0
  have HC0 := Aside0.mk hc0
  clear hr0 hc0
  have HR1 := Aside0.mk hr1
  have HC1 := Aside0.mk hc1
  clear hr1 hc1
  have HB := Aside0.mk (Below.refl w.heap.size w)
  have H : (if 0 ≤ (mn (l0.length : Int) 30) then (if (mn (l0.length : Int) 30) ≤ (l0.length : Int) then (if 0 ≤ (mn (l1.length : Int) 30) then (if (mn (l1.length : Int) 30) ≤ (l1.length : Int) then (precinctlaw01_WordsBack.l0 k (l0.take ((mn (l0.length : Int) 30) : Int).toNat) (l1.take ((mn (l1.length : Int) 30) : Int).toNat) (⟨#[]⟩ : ByteArray) (l0.take ((mn (l0.length : Int) 30) : Int).toNat) ((l0.take ((mn (l0.length : Int) 30) : Int).toNat).length : Int) 0) else (none)) else (none)) else (none)) else (none)) = some r := h
  clear h
  obtain ⟨ji3, hji3⟩ : ∃ j_ : Int, (mn (l0.length : Int) 30) = j_ := ⟨_, rfl⟩
  replace H : (if 0 ≤ (ji3) then (if (ji3) ≤ (l0.length : Int) then (if 0 ≤ (mn (l1.length : Int) 30) then (if (mn (l1.length : Int) 30) ≤ (l1.length : Int) then (precinctlaw01_WordsBack.l0 k (l0.take ((ji3) : Int).toNat) (l1.take ((mn (l1.length : Int) 30) : Int).toNat) (⟨#[]⟩ : ByteArray) (l0.take ((ji3) : Int).toNat) ((l0.take ((ji3) : Int).toNat).length : Int) 0) else (none)) else (none)) else (none)) else (none)) = some r := by first | (rw [hji3] at H; exact H) | (simp only [hji3] at H ⊢; exact H)
  (try (have hji3h : ji3 ≤ 30 := by (rw [← hji3]; unfold mn; (repeat' split) <;> omega)))
  (try (have hji3g : ji3 ≤ 64 := by omega))
  (try (have hji3l : 0 ≤ ji3 := by (rw [← hji3]; unfold mn; (repeat' split) <;> omega)))
  (try (have hji3m : 0 ≤ ji3 := by omega))
  have hji3_ : (if 30 < (l0.length : Int) then 30 else (l0.length : Int)) = ji3 := hji3
  by_cases c4 : 0 ≤ (ji3)
  · rw [if_pos c4] at H
    have c4b0 := eq_true c4
    have c4b1 : decide (0 ≤ (ji3)) = true := decide_eq_true c4
    clear c4
    by_cases c5 : (ji3) ≤ (l0.length : Int)
    · rw [if_pos c5] at H
      have c5b0 := eq_true c5
      have c5b1 : decide ((ji3) ≤ (l0.length : Int)) = true := decide_eq_true c5
      clear c5
      obtain ⟨ji6, hji6⟩ : ∃ j_ : Int, (mn (l1.length : Int) 30) = j_ := ⟨_, rfl⟩
      replace H : (if 0 ≤ (ji6) then (if (ji6) ≤ (l1.length : Int) then (precinctlaw01_WordsBack.l0 k (l0.take ((ji3) : Int).toNat) (l1.take ((ji6) : Int).toNat) (⟨#[]⟩ : ByteArray) (l0.take ((ji3) : Int).toNat) ((l0.take ((ji3) : Int).toNat).length : Int) 0) else (none)) else (none)) = some r := by first | (rw [hji6] at H; exact H) | (simp only [hji6] at H ⊢; exact H)
      (try (have hji6h : ji6 ≤ 30 := by (rw [← hji6]; unfold mn; (repeat' split) <;> omega)))
      (try (have hji6g : ji6 ≤ 64 := by omega))
      (try (have hji6l : 0 ≤ ji6 := by (rw [← hji6]; unfold mn; (repeat' split) <;> omega)))
      (try (have hji6m : 0 ≤ ji6 := by omega))
      have hji6_ : (if 30 < (l1.length : Int) then 30 else (l1.length : Int)) = ji6 := hji6
      by_cases c7 : 0 ≤ (ji6)
      · rw [if_pos c7] at H
        have c7b0 := eq_true c7
        have c7b1 : decide (0 ≤ (ji6)) = true := decide_eq_true c7
        clear c7
        by_cases c8 : (ji6) ≤ (l1.length : Int)
        · rw [if_pos c8] at H
          have c8b0 := eq_true c8
          have c8b1 : decide ((ji6) ≤ (l1.length : Int)) = true := decide_eq_true c8
          clear c8
          have H' := Aside0.mk H
          clear H
          obtain ⟨i09, hi09, _, hsz9, _⟩ := info_parts info22
          obtain ⟨hcut9, hA9, hC9⟩ := print_take_of (P := Try.prog) (Value.int .u64) 0 52 22 .i64 Try.underlying52 hi09 hsz9 A0 c0 l0 (ji3) (of_decide_eq_true (by first | (with_reducible assumption) | assumption)) (of_decide_eq_true (by first | (with_reducible assumption) | assumption)) HC0.out
          have HR174 := Aside0.mk (Kd.C_of_reads (h1 := fun _ => rfl) (hA9 _ (Kd.reads_of_C HR0.out)))
          have HC174 := Aside0.mk hC9
          clear hA9 hC9 hi09 hsz9
          obtain ⟨i010, hi010, _, hsz10, _⟩ := info_parts info9
          obtain ⟨hcut10, hA10, hC10⟩ := print_take_of (P := Try.prog) Value.string (⟨#[]⟩ : ByteArray) 53 9 .i64 Try.underlying53 hi010 hsz10 A1 c1 l1 (ji6) (of_decide_eq_true (by first | (with_reducible assumption) | assumption)) (of_decide_eq_true (by first | (with_reducible assumption) | assumption)) HC1.out
          have HR175 := Aside0.mk (Kd.C_of_reads (h1 := fun _ => rfl) (hA10 _ (Kd.reads_of_C HR1.out)))
          have HC175 := Aside0.mk hC10
          clear hA10 hC10 hi010 hsz10
          go_enter Try.func11, Try.ntmps11
          go_wp2
          repeat (go_quiet (fail); try go_wp2)
          go_loopg [5, 35] k (fun kq v5 v35 w' => ∃ (x5_1 : ByteArray) (x35_1 : Int), v5 = .string x5_1 ∧ v35 = .int .i64 x35_1 ∧ Aside0 (precinctlaw01_WordsBack.l0 kq (l0.take ((ji3) : Int).toNat) (l1.take ((ji6) : Int).toNat) x5_1 (l0.take ((ji3) : Int).toNat) ((l0.take ((ji3) : Int).toNat).length : Int) x35_1 = some r) ∧ Aside0 (kq ≤ k) ∧ Aside0 (Below w.heap.size w w'))
          case atStart => exact ⟨((⟨#[]⟩ : ByteArray)), (0), (by first | rfl | (simp; done) | (simp [*]; done)), (by first | rfl | (simp; done) | (simp [*]; done)), H', ⟨Nat.le_refl _⟩, ⟨by repeat (first | (with_reducible first | exact HB.out | apply below_alloc | apply pw_below_drewN | apply below_drew1) | exact HB.out)⟩⟩
          case round =>
            clear H'
            try clear c1
            try clear p2
            try clear c4
            try clear c4b0
            try clear c4b1
            try clear c5
            try clear c5b0
            try clear c5b1
            try clear c7
            try clear c7b0
            try clear c7b1
            try clear c8
            try clear c8b0
            try clear c8b1
            obtain ⟨x5_1, x35_1, rfl, rfl, HA, HK1, HB⟩ := hrel
            cases gk with
            | zero => exact absurd HA.out (by simp [precinctlaw01_WordsBack.l0])
            | succ k1 =>
              have H := HA.out
              clear HA
              simp only [precinctlaw01_WordsBack.l0] at H
              by_cases c11 : x35_1 < ((l0.take ((ji3) : Int).toNat).length : Int)
              · rw [if_pos c11] at H
                have c11b0 : decide (x35_1 < ((l0.take ((ji3) : Int).toNat).length : Int)) = true := decide_eq_true c11
                (try have c11b0y : decide (x35_1 < max ji3 0) = true := by (have h_ := of_decide_eq_true c11b0; rw [List.length_take] at h_; exact decide_eq_true (by (have h2_ := hji3_; split at h2_ <;> omega))))
                clear c11
                by_cases c12 : 0 ≤ x35_1
                · rw [if_pos c12] at H
                  have c12b0 : decide (0 ≤ x35_1) = true := decide_eq_true c12
                  clear c12
                  by_cases c13 : x35_1 < ((l0.take ((ji3) : Int).toNat).length : Int)
                  · rw [if_pos c13] at H
                    have c13b0 : decide (x35_1 < ((l0.take ((ji3) : Int).toNat).length : Int)) = true := decide_eq_true c13
                    (try have c13b0y : decide (x35_1 < max ji3 0) = true := by (have h_ := of_decide_eq_true c13b0; rw [List.length_take] at h_; exact decide_eq_true (by (have h2_ := hji3_; split at h2_ <;> omega))))
                    clear c13
                    replace H := Option.bind_eq_some_iff.mp H
                    obtain ⟨t177, A140, H⟩ := H
                    replace H : (if x5_1.size + t177.size ≤ 9223372036854775807 then (precinctlaw01_WordsBack.l0 k1 (l0.take ((ji3) : Int).toNat) (l1.take ((ji6) : Int).toNat) (x5_1 ++ t177) (l0.take ((ji3) : Int).toNat) ((l0.take ((ji3) : Int).toNat).length : Int) (wrap64 (x35_1 + 1))) else (none)) = some r := H
                    have A14 := Aside0.mk A140
                    clear A140
                    by_cases c15 : x5_1.size + t177.size ≤ 9223372036854775807
                    · rw [if_pos c15] at H
                      have c15b0 := eq_true c15
                      have c15b1 : decide (x5_1.size + t177.size ≤ 9223372036854775807) = true := decide_eq_true c15
                      try have c15b2 : (9223372036854775807 < x5_1.size + t177.size) = False := eq_false (Nat.not_lt.2 c15)
                      have H' := Aside0.mk H
                      clear H
                      have p176 : 0 ≤ (x35_1 : Int) := of_decide_eq_true (by first | (with_reducible assumption) | assumption)
                      have q176 : x35_1 < ((l0.take ((ji3) : Int).toNat).length : Int) := of_decide_eq_true (by first | (with_reducible assumption) | assumption)
                      obtain ⟨ad176, e176, hx176_0⟩ := Kd.at_int HR174.out x35_1 p176 q176
                      cases e176
                      replace hx176_0 := (HB.out.cell (World.block_lt_of_cell? w _ hx176_0)).trans hx176_0
                      replace p176 := eq_true p176
                      replace q176 := eq_true q176
                      (try have q176y : (x35_1 < max ji3 0) = True := eq_true (of_decide_eq_true (by assumption)))
                      go_wp2_with (first | (go_at_call 25; (with_reducible refine (words_Put.calls k1 (wrap64 (1 + (Int.tmod x35_1 8))) (rd (l0.take ((ji3) : Int).toNat) x35_1) t177 _ A14.out).mono ?_); rintro e w16 ⟨rfl, hb⟩; have n0_ := Aside0.mk (below_step (by repeat (first | (with_reducible first | exact HB.out | apply below_alloc | apply pw_below_drewN | apply below_drew1) | exact HB.out)) hb); clear HB; have HB := n0_; clear n0_; (try clear hb); (try clear hb2); (try clear hk); (try clear hi)))
                      repeat (go_quiet (first | (go_at_call 25; (with_reducible refine (words_Put.calls k1 (wrap64 (1 + (Int.tmod x35_1 8))) (rd (l0.take ((ji3) : Int).toNat) x35_1) t177 _ A14.out).mono ?_); rintro e w16 ⟨rfl, hb⟩; have n0_ := Aside0.mk (below_step (by repeat (first | (with_reducible first | exact HB.out | apply below_alloc | apply pw_below_drewN | apply below_drew1) | exact HB.out)) hb); clear HB; have HB := n0_; clear n0_; (try clear hb); (try clear hb2); (try clear hk); (try clear hi))); try go_wp2_with (first | (go_at_call 25; (with_reducible refine (words_Put.calls k1 (wrap64 (1 + (Int.tmod x35_1 8))) (rd (l0.take ((ji3) : Int).toNat) x35_1) t177 _ A14.out).mono ?_); rintro e w16 ⟨rfl, hb⟩; have n0_ := Aside0.mk (below_step (by repeat (first | (with_reducible first | exact HB.out | apply below_alloc | apply pw_below_drewN | apply below_drew1) | exact HB.out)) hb); clear HB; have HB := n0_; clear n0_; (try clear hb); (try clear hb2); (try clear hk); (try clear hi))))
                      go_roundg k1
                      case measure => have := HK1.out; omega
                      case rel => exact ⟨(x5_1 ++ t177), (wrap64 (x35_1 + 1)), (by first | rfl | (simp; done) | (simp [*]; done)), (by first | rfl | (simp; done) | (simp [*]; done)), H', ⟨by have := HK1.out; omega⟩, ⟨by repeat (first | (with_reducible first | exact HB.out | apply below_alloc | apply pw_below_drewN | apply below_drew1) | exact HB.out)⟩⟩
                    · rw [if_neg c15] at H
                      exact absurd H (by simp)
                  · rw [if_neg c13] at H
                    exact absurd H (by simp)
                · rw [if_neg c12] at H
                  exact absurd H (by simp)
              · rw [if_neg c11] at H
                have c11b0 : decide (x35_1 < ((l0.take ((ji3) : Int).toNat).length : Int)) = false := decide_eq_false c11
                (try have c11b0y : decide (x35_1 < max ji3 0) = false := by (have h_ := of_decide_eq_false c11b0; rw [List.length_take] at h_; exact decide_eq_false (by (have h2_ := hji3_; split at h2_ <;> omega))))
                clear c11
                have H' := Aside0.mk H
                clear H
                go_wp2
                repeat (go_quiet (fail); try go_wp2)
                go_loopg [5, 50] k1 (fun kq v5 v50 w' => ∃ (x5_2 : ByteArray) (x50_2 : Int), v5 = .string x5_2 ∧ v50 = .int .i64 x50_2 ∧ Aside0 (precinctlaw01_WordsBack.l1 kq (l0.take ((ji3) : Int).toNat) (l1.take ((ji6) : Int).toNat) x5_2 (l1.take ((ji6) : Int).toNat) ((l1.take ((ji6) : Int).toNat).length : Int) x50_2 = some r) ∧ Aside0 (kq ≤ k1) ∧ Aside0 (Below w.heap.size w w'))
                case atStart => exact ⟨(x5_1), (0), (by first | rfl | (simp; done) | (simp [*]; done)), (by first | rfl | (simp; done) | (simp [*]; done)), H', ⟨Nat.le_refl _⟩, ⟨by repeat (first | (with_reducible first | exact HB.out | apply below_alloc | apply pw_below_drewN | apply below_drew1) | exact HB.out)⟩⟩
                case round =>
                  clear H'
                  try clear c1
                  try clear p1
                  try clear q1
                  try clear hx1
                  try clear p2
                  try clear c4
                  try clear c4b0
                  try clear c4b1
                  try clear c5
                  try clear c5b0
                  try clear c5b1
                  try clear p6
                  try clear c7
                  try clear c7b0
                  try clear c7b1
                  try clear c8
                  try clear c8b0
                  try clear c8b1
                  try clear c11
                  try clear c11b0
                  try clear c12
                  try clear c12b0
                  try clear c13
                  try clear c13b0
                  try clear c15
                  try clear c15b0
                  try clear c15b1
                  try clear c15b2
                  try clear hx176_0
                  try clear p176
                  try clear p2
                  try clear q176
                  obtain ⟨x5_2, x50_2, rfl, rfl, HA, HK2, HB⟩ := hrel
                  cases gk with
                  | zero => exact absurd HA.out (by simp [precinctlaw01_WordsBack.l1])
                  | succ k2 =>
                    have H := HA.out
                    clear HA
                    simp only [precinctlaw01_WordsBack.l1] at H
                    by_cases c17 : x50_2 < ((l1.take ((ji6) : Int).toNat).length : Int)
                    · rw [if_pos c17] at H
                      have c17b0 : decide (x50_2 < ((l1.take ((ji6) : Int).toNat).length : Int)) = true := decide_eq_true c17
                      (try have c17b0y : decide (x50_2 < max ji6 0) = true := by (have h_ := of_decide_eq_true c17b0; rw [List.length_take] at h_; exact decide_eq_true (by (have h2_ := hji6_; split at h2_ <;> omega))))
                      clear c17
                      by_cases c18 : 0 ≤ x50_2
                      · rw [if_pos c18] at H
                        have c18b0 : decide (0 ≤ x50_2) = true := decide_eq_true c18
                        clear c18
                        by_cases c19 : x50_2 < ((l1.take ((ji6) : Int).toNat).length : Int)
                        · rw [if_pos c19] at H
                          have c19b0 : decide (x50_2 < ((l1.take ((ji6) : Int).toNat).length : Int)) = true := decide_eq_true c19
                          (try have c19b0y : decide (x50_2 < max ji6 0) = true := by (have h_ := of_decide_eq_true c19b0; rw [List.length_take] at h_; exact decide_eq_true (by (have h2_ := hji6_; split at h2_ <;> omega))))
                          clear c19
                          obtain ⟨ji20, hji20⟩ : ∃ j_ : Int, (mn ((rdOf ByteArray.empty (l1.take ((ji6) : Int).toNat) x50_2).size : Int) 1000) = j_ := ⟨_, rfl⟩
                          replace H : (if 0 ≤ (ji20) then (if (ji20) ≤ ((rdOf ByteArray.empty (l1.take ((ji6) : Int).toNat) x50_2).size : Int) then ((words_Text.f k2 ((rdOf ByteArray.empty (l1.take ((ji6) : Int).toNat) x50_2).extract 0 ((ji20) : Int).toNat)).bind fun bt179 => (if bt179.2 = 0 then (if x5_2.size + bt179.1.size ≤ 9223372036854775807 then (precinctlaw01_WordsBack.l1 k2 (l0.take ((ji3) : Int).toNat) (l1.take ((ji6) : Int).toNat) (x5_2 ++ bt179.1) (l1.take ((ji6) : Int).toNat) ((l1.take ((ji6) : Int).toNat).length : Int) (wrap64 (x50_2 + 1))) else (none)) else (some false))) else (none)) else (none)) = some r := by first | (rw [hji20] at H; exact H) | (simp only [hji20] at H ⊢; exact H)
                          have hji20_ : (if 1000 < ((rdOf ByteArray.empty (l1.take ((ji6) : Int).toNat) x50_2).size : Int) then 1000 else ((rdOf ByteArray.empty (l1.take ((ji6) : Int).toNat) x50_2).size : Int)) = ji20 := hji20
                          by_cases c21 : 0 ≤ (ji20)
                          · rw [if_pos c21] at H
                            have c21b0 := eq_true c21
                            have c21b1 : decide (0 ≤ (ji20)) = true := decide_eq_true c21
                            clear c21
                            by_cases c22 : (ji20) ≤ ((rdOf ByteArray.empty (l1.take ((ji6) : Int).toNat) x50_2).size : Int)
                            · rw [if_pos c22] at H
                              have c22b0 := eq_true c22
                              have c22b1 : decide ((ji20) ≤ ((rdOf ByteArray.empty (l1.take ((ji6) : Int).toNat) x50_2).size : Int)) = true := decide_eq_true c22
                              clear c22
                              replace H := Option.bind_eq_some_iff.mp H
                              obtain ⟨⟨t179, t180⟩, A230, H⟩ := H
                              replace H : (if t180 = 0 then (if x5_2.size + t179.size ≤ 9223372036854775807 then (precinctlaw01_WordsBack.l1 k2 (l0.take ((ji3) : Int).toNat) (l1.take ((ji6) : Int).toNat) (x5_2 ++ t179) (l1.take ((ji6) : Int).toNat) ((l1.take ((ji6) : Int).toNat).length : Int) (wrap64 (x50_2 + 1))) else (none)) else (some false)) = some r := H
                              have A23 := Aside0.mk A230
                              clear A230
                              by_cases c24 : t180 = 0
                              · rw [if_pos c24] at H
                                have c24b0 : (t180 == 0) = true := beq_iff_eq.mpr c24
                                have c24b1 : (t180 != 0) = false := bne_eq_false_iff_eq.mpr c24
                                clear c24
                                by_cases c25 : x5_2.size + t179.size ≤ 9223372036854775807
                                · rw [if_pos c25] at H
                                  have c25b0 := eq_true c25
                                  have c25b1 : decide (x5_2.size + t179.size ≤ 9223372036854775807) = true := decide_eq_true c25
                                  try have c25b2 : (9223372036854775807 < x5_2.size + t179.size) = False := eq_false (Nat.not_lt.2 c25)
                                  have H' := Aside0.mk H
                                  clear H
                                  have p178 : 0 ≤ (x50_2 : Int) := of_decide_eq_true (by first | (with_reducible assumption) | assumption)
                                  have q178 : x50_2 < ((l1.take ((ji6) : Int).toNat).length : Int) := of_decide_eq_true (by first | (with_reducible assumption) | assumption)
                                  obtain ⟨ad178, e178, hx178_0⟩ := Kd.at_string HR175.out x50_2 p178 q178
                                  cases e178
                                  replace hx178_0 := (HB.out.cell (World.block_lt_of_cell? w _ hx178_0)).trans hx178_0
                                  replace p178 := eq_true p178
                                  replace q178 := eq_true q178
                                  (try have q178y : (x50_2 < max ji6 0) = True := eq_true (of_decide_eq_true (by assumption)))
                                  go_wp2_with (first | (go_at_call 33; (with_reducible refine (words_Text.calls k2 ((rdOf ByteArray.empty (l1.take ((ji6) : Int).toNat) x50_2).extract 0 ((ji20) : Int).toNat) t179 t180 _ A23.out).mono ?_); rintro e w26 ⟨rfl, hb⟩; have n0_ := Aside0.mk (below_step (by repeat (first | (with_reducible first | exact HB.out | apply below_alloc | apply pw_below_drewN | apply below_drew1) | exact HB.out)) hb); clear HB; have HB := n0_; clear n0_; (try clear hb); (try clear hb2); (try clear hk); (try clear hi)))
                                  repeat (go_quiet (first | (go_at_call 33; (with_reducible refine (words_Text.calls k2 ((rdOf ByteArray.empty (l1.take ((ji6) : Int).toNat) x50_2).extract 0 ((ji20) : Int).toNat) t179 t180 _ A23.out).mono ?_); rintro e w26 ⟨rfl, hb⟩; have n0_ := Aside0.mk (below_step (by repeat (first | (with_reducible first | exact HB.out | apply below_alloc | apply pw_below_drewN | apply below_drew1) | exact HB.out)) hb); clear HB; have HB := n0_; clear n0_; (try clear hb); (try clear hb2); (try clear hk); (try clear hi))); try go_wp2_with (first | (go_at_call 33; (with_reducible refine (words_Text.calls k2 ((rdOf ByteArray.empty (l1.take ((ji6) : Int).toNat) x50_2).extract 0 ((ji20) : Int).toNat) t179 t180 _ A23.out).mono ?_); rintro e w26 ⟨rfl, hb⟩; have n0_ := Aside0.mk (below_step (by repeat (first | (with_reducible first | exact HB.out | apply below_alloc | apply pw_below_drewN | apply below_drew1) | exact HB.out)) hb); clear HB; have HB := n0_; clear n0_; (try clear hb); (try clear hb2); (try clear hk); (try clear hi))))
                                  go_roundg k2
                                  case measure => have := HK1.out; have := HK2.out; omega
                                  case rel => exact ⟨(x5_2 ++ t179), (wrap64 (x50_2 + 1)), (by first | rfl | (simp; done) | (simp [*]; done)), (by first | rfl | (simp; done) | (simp [*]; done)), H', ⟨by have := HK1.out; have := HK2.out; omega⟩, ⟨by repeat (first | (with_reducible first | exact HB.out | apply below_alloc | apply pw_below_drewN | apply below_drew1) | exact HB.out)⟩⟩
                                · rw [if_neg c25] at H
                                  exact absurd H (by simp)
                              · rw [if_neg c24] at H
                                have c24b0 : (t180 == 0) = false := beq_eq_false_iff_ne.mpr c24
                                have c24b1 : (t180 != 0) = true := bne_iff_ne.mpr c24
                                exact absurd ((Option.some.inj H).trans hT_.out) (by decide)
                            · rw [if_neg c22] at H
                              exact absurd H (by simp)
                          · rw [if_neg c21] at H
                            exact absurd H (by simp)
                        · rw [if_neg c19] at H
                          exact absurd H (by simp)
                      · rw [if_neg c18] at H
                        exact absurd H (by simp)
                    · rw [if_neg c17] at H
                      have c17b0 : decide (x50_2 < ((l1.take ((ji6) : Int).toNat).length : Int)) = false := decide_eq_false c17
                      (try have c17b0y : decide (x50_2 < max ji6 0) = false := by (have h_ := of_decide_eq_false c17b0; rw [List.length_take] at h_; exact decide_eq_false (by (have h2_ := hji6_; split at h2_ <;> omega))))
                      clear c17
                      have H' := Aside0.mk H
                      clear H
                      go_wp2
                      repeat (go_quiet (fail); try go_wp2)
                      go_loopg [12, 71] k2 (fun kq v12 v71 w' => ∃ (x12_3 : Int) (x71_3 : Int), v12 = .int .i64 x12_3 ∧ v71 = .int .i64 x71_3 ∧ Aside0 (precinctlaw01_WordsBack.l2 kq (l1.take ((ji6) : Int).toNat) x5_2 x12_3 (l0.take ((ji3) : Int).toNat) ((l0.take ((ji3) : Int).toNat).length : Int) x71_3 = some r) ∧ Aside0 (kq ≤ k2) ∧ Aside0 (Below w.heap.size w w'))
                      case atStart => exact ⟨(0), (0), (by first | rfl | (simp; done) | (simp [*]; done)), (by first | rfl | (simp; done) | (simp [*]; done)), H', ⟨Nat.le_refl _⟩, ⟨by repeat (first | (with_reducible first | exact HB.out | apply below_alloc | apply pw_below_drewN | apply below_drew1) | exact HB.out)⟩⟩
                      case round =>
                        clear H'
                        try clear c1
                        try clear p1
                        try clear q1
                        try clear hx1
                        try clear c2
                        try clear p2
                        try clear c4
                        try clear c4b0
                        try clear c4b1
                        try clear c5
                        try clear c5b0
                        try clear c5b1
                        try clear p6
                        try clear c7
                        try clear c7b0
                        try clear c7b1
                        try clear c8
                        try clear c8b0
                        try clear c8b1
                        try clear c11
                        try clear c11b0
                        try clear c12
                        try clear c12b0
                        try clear c13
                        try clear c13b0
                        try clear c15
                        try clear c15b0
                        try clear c15b1
                        try clear c15b2
                        try clear c17
                        try clear c17b0
                        try clear p17
                        try clear q17
                        try clear hx17
                        try clear c18
                        try clear c18b0
                        try clear c19
                        try clear c19b0
                        try clear c21
                        try clear c21b0
                        try clear c21b1
                        try clear c22
                        try clear c22b0
                        try clear c22b1
                        try clear c24
                        try clear c24b0
                        try clear c24b1
                        try clear c25
                        try clear c25b0
                        try clear c25b1
                        try clear c25b2
                        try clear hx176_0
                        try clear hx178_0
                        try clear p1
                        try clear p176
                        try clear p178
                        try clear p2
                        try clear p6
                        try clear q1
                        try clear q176
                        try clear q178
                        obtain ⟨x12_3, x71_3, rfl, rfl, HA, HK3, HB⟩ := hrel
                        cases gk with
                        | zero => exact absurd HA.out (by simp [precinctlaw01_WordsBack.l2])
                        | succ k3 =>
                          have H := HA.out
                          clear HA
                          simp only [precinctlaw01_WordsBack.l2] at H
                          by_cases c27 : x71_3 < ((l0.take ((ji3) : Int).toNat).length : Int)
                          · rw [if_pos c27] at H
                            have c27b0 : decide (x71_3 < ((l0.take ((ji3) : Int).toNat).length : Int)) = true := decide_eq_true c27
                            (try have c27b0y : decide (x71_3 < max ji3 0) = true := by (have h_ := of_decide_eq_true c27b0; rw [List.length_take] at h_; exact decide_eq_true (by (have h2_ := hji3_; split at h2_ <;> omega))))
                            clear c27
                            by_cases c28 : 0 ≤ x71_3
                            · rw [if_pos c28] at H
                              have c28b0 : decide (0 ≤ x71_3) = true := decide_eq_true c28
                              clear c28
                              by_cases c29 : x71_3 < ((l0.take ((ji3) : Int).toNat).length : Int)
                              · rw [if_pos c29] at H
                                have c29b0 : decide (x71_3 < ((l0.take ((ji3) : Int).toNat).length : Int)) = true := decide_eq_true c29
                                (try have c29b0y : decide (x71_3 < max ji3 0) = true := by (have h_ := of_decide_eq_true c29b0; rw [List.length_take] at h_; exact decide_eq_true (by (have h2_ := hji3_; split at h2_ <;> omega))))
                                clear c29
                                replace H := Option.bind_eq_some_iff.mp H
                                obtain ⟨⟨t182, t183, t184⟩, A300, H⟩ := H
                                replace H : (if t184 = 0 then ((words_Bits.f k3 (rd (l0.take ((ji3) : Int).toNat) x71_3) 0 (wrap64 (8 * (wrap64 (1 + (Int.tmod x71_3 8)))))).bind fun t185 => (if t182 = t185 then (precinctlaw01_WordsBack.l2 k3 (l1.take ((ji6) : Int).toNat) x5_2 t183 (l0.take ((ji3) : Int).toNat) ((l0.take ((ji3) : Int).toNat).length : Int) (wrap64 (x71_3 + 1))) else (some false))) else (some false)) = some r := H
                                have A30 := Aside0.mk A300
                                clear A300
                                by_cases c31 : t184 = 0
                                · rw [if_pos c31] at H
                                  have c31b0 : (t184 == 0) = true := beq_iff_eq.mpr c31
                                  have c31b1 : (t184 != 0) = false := bne_eq_false_iff_eq.mpr c31
                                  clear c31
                                  replace H := Option.bind_eq_some_iff.mp H
                                  obtain ⟨t185, A320, H⟩ := H
                                  replace H : (if t182 = t185 then (precinctlaw01_WordsBack.l2 k3 (l1.take ((ji6) : Int).toNat) x5_2 t183 (l0.take ((ji3) : Int).toNat) ((l0.take ((ji3) : Int).toNat).length : Int) (wrap64 (x71_3 + 1))) else (some false)) = some r := H
                                  have A32 := Aside0.mk A320
                                  clear A320
                                  by_cases c33 : t182 = t185
                                  · rw [if_pos c33] at H
                                    have c33b0 : (t182 == t185) = true := beq_iff_eq.mpr c33
                                    have c33b1 : (t182 != t185) = false := bne_eq_false_iff_eq.mpr c33
                                    clear c33
                                    have H' := Aside0.mk H
                                    clear H
                                    have p181 : 0 ≤ (x71_3 : Int) := of_decide_eq_true (by first | (with_reducible assumption) | assumption)
                                    have q181 : x71_3 < ((l0.take ((ji3) : Int).toNat).length : Int) := of_decide_eq_true (by first | (with_reducible assumption) | assumption)
                                    obtain ⟨ad181, e181, hx181_0⟩ := Kd.at_int HR174.out x71_3 p181 q181
                                    cases e181
                                    replace hx181_0 := (HB.out.cell (World.block_lt_of_cell? w _ hx181_0)).trans hx181_0
                                    replace p181 := eq_true p181
                                    replace q181 := eq_true q181
                                    (try have q181y : (x71_3 < max ji3 0) = True := eq_true (of_decide_eq_true (by assumption)))
                                    go_wp2_with (first | (go_at_call 31; (with_reducible refine (words_Get.calls k3 x5_2 x12_3 (wrap64 (1 + (Int.tmod x71_3 8))) t182 t183 t184 _ A30.out).mono ?_); rintro e w' ⟨rfl, ⟨nd, rfl⟩⟩; (try first | exact ⟨rfl, _, World.drewN_drewN _ _ _⟩ | exact ⟨rfl, _, Eq.trans (World.drewN_drewN _ _ _) (congrArg (World.drewN _) (Nat.add_assoc _ _ _))⟩)) | (go_at_call 29; (with_reducible refine (words_Bits.calls k3 (rd (l0.take ((ji3) : Int).toNat) x71_3) 0 (wrap64 (8 * (wrap64 (1 + (Int.tmod x71_3 8))))) t185 _ A32.out).mono ?_); rintro e w34 ⟨rfl, hb⟩; have n0_ := Aside0.mk (below_step (by repeat (first | (with_reducible first | exact HB.out | apply below_alloc | apply pw_below_drewN | apply below_drew1) | exact HB.out)) hb); clear HB; have HB := n0_; clear n0_; (try clear hb); (try clear hb2); (try clear hk); (try clear hi)))
                                    repeat (go_quiet (first | (go_at_call 31; (with_reducible refine (words_Get.calls k3 x5_2 x12_3 (wrap64 (1 + (Int.tmod x71_3 8))) t182 t183 t184 _ A30.out).mono ?_); rintro e w' ⟨rfl, ⟨nd, rfl⟩⟩; (try first | exact ⟨rfl, _, World.drewN_drewN _ _ _⟩ | exact ⟨rfl, _, Eq.trans (World.drewN_drewN _ _ _) (congrArg (World.drewN _) (Nat.add_assoc _ _ _))⟩)) | (go_at_call 29; (with_reducible refine (words_Bits.calls k3 (rd (l0.take ((ji3) : Int).toNat) x71_3) 0 (wrap64 (8 * (wrap64 (1 + (Int.tmod x71_3 8))))) t185 _ A32.out).mono ?_); rintro e w34 ⟨rfl, hb⟩; have n0_ := Aside0.mk (below_step (by repeat (first | (with_reducible first | exact HB.out | apply below_alloc | apply pw_below_drewN | apply below_drew1) | exact HB.out)) hb); clear HB; have HB := n0_; clear n0_; (try clear hb); (try clear hb2); (try clear hk); (try clear hi))); try go_wp2_with (first | (go_at_call 31; (with_reducible refine (words_Get.calls k3 x5_2 x12_3 (wrap64 (1 + (Int.tmod x71_3 8))) t182 t183 t184 _ A30.out).mono ?_); rintro e w' ⟨rfl, ⟨nd, rfl⟩⟩; (try first | exact ⟨rfl, _, World.drewN_drewN _ _ _⟩ | exact ⟨rfl, _, Eq.trans (World.drewN_drewN _ _ _) (congrArg (World.drewN _) (Nat.add_assoc _ _ _))⟩)) | (go_at_call 29; (with_reducible refine (words_Bits.calls k3 (rd (l0.take ((ji3) : Int).toNat) x71_3) 0 (wrap64 (8 * (wrap64 (1 + (Int.tmod x71_3 8))))) t185 _ A32.out).mono ?_); rintro e w34 ⟨rfl, hb⟩; have n0_ := Aside0.mk (below_step (by repeat (first | (with_reducible first | exact HB.out | apply below_alloc | apply pw_below_drewN | apply below_drew1) | exact HB.out)) hb); clear HB; have HB := n0_; clear n0_; (try clear hb); (try clear hb2); (try clear hk); (try clear hi))))
                                    go_roundg k3
                                    case measure => have := HK1.out; have := HK2.out; have := HK3.out; omega
                                    case rel => exact ⟨(t183), (wrap64 (x71_3 + 1)), (by first | rfl | (simp; done) | (simp [*]; done)), (by first | rfl | (simp; done) | (simp [*]; done)), H', ⟨by have := HK1.out; have := HK2.out; have := HK3.out; omega⟩, ⟨by repeat (first | (with_reducible first | exact HB.out | apply below_alloc | apply pw_below_drewN | apply below_drew1) | exact HB.out)⟩⟩
                                  · rw [if_neg c33] at H
                                    have c33b0 : (t182 == t185) = false := beq_eq_false_iff_ne.mpr c33
                                    have c33b1 : (t182 != t185) = true := bne_iff_ne.mpr c33
                                    exact absurd ((Option.some.inj H).trans hT_.out) (by decide)
                                · rw [if_neg c31] at H
                                  have c31b0 : (t184 == 0) = false := beq_eq_false_iff_ne.mpr c31
                                  have c31b1 : (t184 != 0) = true := bne_iff_ne.mpr c31
                                  exact absurd ((Option.some.inj H).trans hT_.out) (by decide)
                              · rw [if_neg c29] at H
                                exact absurd H (by simp)
                            · rw [if_neg c28] at H
                              exact absurd H (by simp)
                          · rw [if_neg c27] at H
                            have c27b0 : decide (x71_3 < ((l0.take ((ji3) : Int).toNat).length : Int)) = false := decide_eq_false c27
                            (try have c27b0y : decide (x71_3 < max ji3 0) = false := by (have h_ := of_decide_eq_false c27b0; rw [List.length_take] at h_; exact decide_eq_false (by (have h2_ := hji3_; split at h2_ <;> omega))))
                            clear c27
                            have H' := Aside0.mk H
                            clear H
                            go_wp2
                            repeat (go_quiet (fail); try go_wp2)
                            go_loopg [12, 102] k3 (fun kq v12 v102 w' => ∃ (x12_4 : Int) (x102_4 : Int), v12 = .int .i64 x12_4 ∧ v102 = .int .i64 x102_4 ∧ Aside0 (precinctlaw01_WordsBack.l3 kq x5_2 x12_4 (l1.take ((ji6) : Int).toNat) ((l1.take ((ji6) : Int).toNat).length : Int) x102_4 = some r) ∧ Aside0 (kq ≤ k3) ∧ Aside0 (Below w.heap.size w w'))
                            case atStart => exact ⟨(x12_3), (0), (by first | rfl | (simp; done) | (simp [*]; done)), (by first | rfl | (simp; done) | (simp [*]; done)), H', ⟨Nat.le_refl _⟩, ⟨by repeat (first | (with_reducible first | exact HB.out | apply below_alloc | apply pw_below_drewN | apply below_drew1) | exact HB.out)⟩⟩
                            case round =>
                              clear H'
                              try clear c1
                              try clear p1
                              try clear q1
                              try clear hx1
                              try clear c2
                              try clear p2
                              try clear c3
                              try clear c4
                              try clear c4b0
                              try clear c4b1
                              try clear c5
                              try clear c5b0
                              try clear c5b1
                              try clear p6
                              try clear c7
                              try clear c7b0
                              try clear c7b1
                              try clear c8
                              try clear c8b0
                              try clear c8b1
                              try clear c11
                              try clear c11b0
                              try clear c12
                              try clear c12b0
                              try clear c13
                              try clear c13b0
                              try clear c15
                              try clear c15b0
                              try clear c15b1
                              try clear c15b2
                              try clear c17
                              try clear c17b0
                              try clear p17
                              try clear q17
                              try clear hx17
                              try clear c18
                              try clear c18b0
                              try clear p18
                              try clear q18
                              try clear hx18
                              try clear c19
                              try clear c19b0
                              try clear c21
                              try clear c21b0
                              try clear c21b1
                              try clear c22
                              try clear c22b0
                              try clear c22b1
                              try clear c24
                              try clear c24b0
                              try clear c24b1
                              try clear c25
                              try clear c25b0
                              try clear c25b1
                              try clear c25b2
                              try clear c27
                              try clear c27b0
                              try clear c28
                              try clear c28b0
                              try clear c29
                              try clear c29b0
                              try clear c31
                              try clear c31b0
                              try clear c31b1
                              try clear c33
                              try clear c33b0
                              try clear c33b1
                              try clear hx176_0
                              try clear hx178_0
                              try clear hx181_0
                              try clear p1
                              try clear p17
                              try clear p176
                              try clear p178
                              try clear p181
                              try clear p2
                              try clear p6
                              try clear q1
                              try clear q17
                              try clear q176
                              try clear q178
                              try clear q181
                              obtain ⟨x12_4, x102_4, rfl, rfl, HA, HK4, HB⟩ := hrel
                              cases gk with
                              | zero => exact absurd HA.out (by simp [precinctlaw01_WordsBack.l3])
                              | succ k4 =>
                                have H := HA.out
                                clear HA
                                simp only [precinctlaw01_WordsBack.l3] at H
                                by_cases c35 : x102_4 < ((l1.take ((ji6) : Int).toNat).length : Int)
                                · rw [if_pos c35] at H
                                  have c35b0 : decide (x102_4 < ((l1.take ((ji6) : Int).toNat).length : Int)) = true := decide_eq_true c35
                                  (try have c35b0y : decide (x102_4 < max ji6 0) = true := by (have h_ := of_decide_eq_true c35b0; rw [List.length_take] at h_; exact decide_eq_true (by (have h2_ := hji6_; split at h2_ <;> omega))))
                                  clear c35
                                  by_cases c36 : 0 ≤ x102_4
                                  · rw [if_pos c36] at H
                                    have c36b0 : decide (0 ≤ x102_4) = true := decide_eq_true c36
                                    clear c36
                                    by_cases c37 : x102_4 < ((l1.take ((ji6) : Int).toNat).length : Int)
                                    · rw [if_pos c37] at H
                                      have c37b0 : decide (x102_4 < ((l1.take ((ji6) : Int).toNat).length : Int)) = true := decide_eq_true c37
                                      (try have c37b0y : decide (x102_4 < max ji6 0) = true := by (have h_ := of_decide_eq_true c37b0; rw [List.length_take] at h_; exact decide_eq_true (by (have h2_ := hji6_; split at h2_ <;> omega))))
                                      clear c37
                                      replace H := Option.bind_eq_some_iff.mp H
                                      obtain ⟨⟨t187, t188, t189⟩, A380, H⟩ := H
                                      replace H : (if t189 = 0 then (if 0 ≤ (mn ((rdOf ByteArray.empty (l1.take ((ji6) : Int).toNat) x102_4).size : Int) 1000) then (if (mn ((rdOf ByteArray.empty (l1.take ((ji6) : Int).toNat) x102_4).size : Int) 1000) ≤ ((rdOf ByteArray.empty (l1.take ((ji6) : Int).toNat) x102_4).size : Int) then (if t187.toList = ((rdOf ByteArray.empty (l1.take ((ji6) : Int).toNat) x102_4).extract 0 ((mn ((rdOf ByteArray.empty (l1.take ((ji6) : Int).toNat) x102_4).size : Int) 1000) : Int).toNat).toList then (precinctlaw01_WordsBack.l3 k4 x5_2 t188 (l1.take ((ji6) : Int).toNat) ((l1.take ((ji6) : Int).toNat).length : Int) (wrap64 (x102_4 + 1))) else (some false)) else (none)) else (none)) else (some false)) = some r := H
                                      have A38 := Aside0.mk A380
                                      clear A380
                                      by_cases c39 : t189 = 0
                                      · rw [if_pos c39] at H
                                        have c39b0 : (t189 == 0) = true := beq_iff_eq.mpr c39
                                        have c39b1 : (t189 != 0) = false := bne_eq_false_iff_eq.mpr c39
                                        clear c39
                                        obtain ⟨ji40, hji40⟩ : ∃ j_ : Int, (mn ((rdOf ByteArray.empty (l1.take ((ji6) : Int).toNat) x102_4).size : Int) 1000) = j_ := ⟨_, rfl⟩
                                        replace H : (if 0 ≤ (ji40) then (if (ji40) ≤ ((rdOf ByteArray.empty (l1.take ((ji6) : Int).toNat) x102_4).size : Int) then (if t187.toList = ((rdOf ByteArray.empty (l1.take ((ji6) : Int).toNat) x102_4).extract 0 ((ji40) : Int).toNat).toList then (precinctlaw01_WordsBack.l3 k4 x5_2 t188 (l1.take ((ji6) : Int).toNat) ((l1.take ((ji6) : Int).toNat).length : Int) (wrap64 (x102_4 + 1))) else (some false)) else (none)) else (none)) = some r := by first | (rw [hji40] at H; exact H) | (simp only [hji40] at H ⊢; exact H)
                                        (try rw [hji40] at A38)
                                        have hji40_ : (if 1000 < ((rdOf ByteArray.empty (l1.take ((ji6) : Int).toNat) x102_4).size : Int) then 1000 else ((rdOf ByteArray.empty (l1.take ((ji6) : Int).toNat) x102_4).size : Int)) = ji40 := hji40
                                        by_cases c41 : 0 ≤ (ji40)
                                        · rw [if_pos c41] at H
                                          have c41b0 := eq_true c41
                                          have c41b1 : decide (0 ≤ (ji40)) = true := decide_eq_true c41
                                          clear c41
                                          by_cases c42 : (ji40) ≤ ((rdOf ByteArray.empty (l1.take ((ji6) : Int).toNat) x102_4).size : Int)
                                          · rw [if_pos c42] at H
                                            have c42b0 := eq_true c42
                                            have c42b1 : decide ((ji40) ≤ ((rdOf ByteArray.empty (l1.take ((ji6) : Int).toNat) x102_4).size : Int)) = true := decide_eq_true c42
                                            clear c42
                                            by_cases c43 : t187.toList = ((rdOf ByteArray.empty (l1.take ((ji6) : Int).toNat) x102_4).extract 0 ((ji40) : Int).toNat).toList
                                            · rw [if_pos c43] at H
                                              have c43b0 : (t187.toList == ((rdOf ByteArray.empty (l1.take ((ji6) : Int).toNat) x102_4).extract 0 ((ji40) : Int).toNat).toList) = true := beq_iff_eq.mpr c43
                                              have c43b1 : (t187.toList != ((rdOf ByteArray.empty (l1.take ((ji6) : Int).toNat) x102_4).extract 0 ((ji40) : Int).toNat).toList) = false := bne_eq_false_iff_eq.mpr c43
                                              clear c43
                                              have H' := Aside0.mk H
                                              clear H
                                              have p186 : 0 ≤ (x102_4 : Int) := of_decide_eq_true (by first | (with_reducible assumption) | assumption)
                                              have q186 : x102_4 < ((l1.take ((ji6) : Int).toNat).length : Int) := of_decide_eq_true (by first | (with_reducible assumption) | assumption)
                                              obtain ⟨ad186, e186, hx186_0⟩ := Kd.at_string HR175.out x102_4 p186 q186
                                              cases e186
                                              replace hx186_0 := (HB.out.cell (World.block_lt_of_cell? w _ hx186_0)).trans hx186_0
                                              replace p186 := eq_true p186
                                              replace q186 := eq_true q186
                                              (try have q186y : (x102_4 < max ji6 0) = True := eq_true (of_decide_eq_true (by assumption)))
                                              go_wp2_with (first | (go_at_call 35; (with_reducible refine (words_GetText.calls k4 x5_2 x12_4 t187 t188 t189 _ A38.out).mono ?_); rintro e w' ⟨rfl, ⟨nd, rfl⟩⟩; (try first | exact ⟨rfl, _, World.drewN_drewN _ _ _⟩ | exact ⟨rfl, _, Eq.trans (World.drewN_drewN _ _ _) (congrArg (World.drewN _) (Nat.add_assoc _ _ _))⟩)))
                                              repeat (go_quiet (first | (go_at_call 35; (with_reducible refine (words_GetText.calls k4 x5_2 x12_4 t187 t188 t189 _ A38.out).mono ?_); rintro e w' ⟨rfl, ⟨nd, rfl⟩⟩; (try first | exact ⟨rfl, _, World.drewN_drewN _ _ _⟩ | exact ⟨rfl, _, Eq.trans (World.drewN_drewN _ _ _) (congrArg (World.drewN _) (Nat.add_assoc _ _ _))⟩))); try go_wp2_with (first | (go_at_call 35; (with_reducible refine (words_GetText.calls k4 x5_2 x12_4 t187 t188 t189 _ A38.out).mono ?_); rintro e w' ⟨rfl, ⟨nd, rfl⟩⟩; (try first | exact ⟨rfl, _, World.drewN_drewN _ _ _⟩ | exact ⟨rfl, _, Eq.trans (World.drewN_drewN _ _ _) (congrArg (World.drewN _) (Nat.add_assoc _ _ _))⟩))))
                                              go_roundg k4
                                              case measure => have := HK1.out; have := HK2.out; have := HK3.out; have := HK4.out; omega
                                              case rel => exact ⟨(t188), (wrap64 (x102_4 + 1)), (by first | rfl | (simp; done) | (simp [*]; done)), (by first | rfl | (simp; done) | (simp [*]; done)), H', ⟨by have := HK1.out; have := HK2.out; have := HK3.out; have := HK4.out; omega⟩, ⟨by repeat (first | (with_reducible first | exact HB.out | apply below_alloc | apply pw_below_drewN | apply below_drew1) | exact HB.out)⟩⟩
                                            · rw [if_neg c43] at H
                                              have c43b0 : (t187.toList == ((rdOf ByteArray.empty (l1.take ((ji6) : Int).toNat) x102_4).extract 0 ((ji40) : Int).toNat).toList) = false := beq_eq_false_iff_ne.mpr c43
                                              have c43b1 : (t187.toList != ((rdOf ByteArray.empty (l1.take ((ji6) : Int).toNat) x102_4).extract 0 ((ji40) : Int).toNat).toList) = true := bne_iff_ne.mpr c43
                                              exact absurd ((Option.some.inj H).trans hT_.out) (by decide)
                                          · rw [if_neg c42] at H
                                            exact absurd H (by simp)
                                        · rw [if_neg c41] at H
                                          exact absurd H (by simp)
                                      · rw [if_neg c39] at H
                                        have c39b0 : (t189 == 0) = false := beq_eq_false_iff_ne.mpr c39
                                        have c39b1 : (t189 != 0) = true := bne_iff_ne.mpr c39
                                        exact absurd ((Option.some.inj H).trans hT_.out) (by decide)
                                    · rw [if_neg c37] at H
                                      exact absurd H (by simp)
                                  · rw [if_neg c36] at H
                                    exact absurd H (by simp)
                                · rw [if_neg c35] at H
                                  have c35b0 : decide (x102_4 < ((l1.take ((ji6) : Int).toNat).length : Int)) = false := decide_eq_false c35
                                  (try have c35b0y : decide (x102_4 < max ji6 0) = false := by (have h_ := of_decide_eq_false c35b0; rw [List.length_take] at h_; exact decide_eq_false (by (have h2_ := hji6_; split at h2_ <;> omega))))
                                  clear c35
                                  replace H := Option.bind_eq_some_iff.mp H
                                  obtain ⟨t190, A440, H⟩ := H
                                  replace H : (if t190 = true then (some (x12_4 == (x5_2.size : Int))) else (some false)) = some r := H
                                  have A44 := Aside0.mk A440
                                  clear A440
                                  by_cases c45 : t190 = true
                                  · subst c45
                                    have H1 : (some (x12_4 == (x5_2.size : Int))) = some r := by rw [if_pos rfl] at H; exact H
                                    clear H
                                    have H := H1
                                    clear H1
                                    obtain rfl := Option.some.inj H
                                    go_wp2_with (first | (go_at_call 37; (with_reducible refine (precinctlaw01_wakes.calls k4  true _ A44.out).mono ?_); rintro e w46 ⟨rfl, hb⟩; have n0_ := Aside0.mk (below_step (by repeat (first | (with_reducible first | exact HB.out | apply below_alloc | apply pw_below_drewN | apply below_drew1) | exact HB.out)) hb); clear HB; have HB := n0_; clear n0_; (try clear hb); (try clear hb2); (try clear hk); (try clear hi)))
                                    repeat (go_quiet (first | (go_at_call 37; (with_reducible refine (precinctlaw01_wakes.calls k4  true _ A44.out).mono ?_); rintro e w46 ⟨rfl, hb⟩; have n0_ := Aside0.mk (below_step (by repeat (first | (with_reducible first | exact HB.out | apply below_alloc | apply pw_below_drewN | apply below_drew1) | exact HB.out)) hb); clear HB; have HB := n0_; clear n0_; (try clear hb); (try clear hb2); (try clear hk); (try clear hi))); try go_wp2_with (first | (go_at_call 37; (with_reducible refine (precinctlaw01_wakes.calls k4  true _ A44.out).mono ?_); rintro e w46 ⟨rfl, hb⟩; have n0_ := Aside0.mk (below_step (by repeat (first | (with_reducible first | exact HB.out | apply below_alloc | apply pw_below_drewN | apply below_drew1) | exact HB.out)) hb); clear HB; have HB := n0_; clear n0_; (try clear hb); (try clear hb2); (try clear hk); (try clear hi))))
                                    go_ret
                                    exact ⟨by first | rfl | (simp [errW_none, errW_some] <;> rfl) | (simp only [← hji3, ← hji6]; first | rfl | (simp [errW_none, errW_some] <;> rfl)) | (simp [*, errW_none, errW_some] <;> rfl), by repeat (first | (with_reducible first | exact HB.out | apply below_alloc | apply pw_below_drewN | apply below_drew1) | exact HB.out)⟩
                                  · replace c45 := Bool.eq_false_iff.mpr c45
                                    subst c45
                                    have H1 : (some false) = some r := by rw [if_neg (show ¬ (false = true) by decide)] at H; exact H
                                    clear H
                                    have H := H1
                                    clear H1
                                    exact absurd ((Option.some.inj H).trans hT_.out) (by decide)
        · rw [if_neg c8] at H
          exact absurd H (by simp)
      · rw [if_neg c7] at H
        exact absurd H (by simp)
    · rw [if_neg c5] at H
      exact absurd H (by simp)
  · rw [if_neg c4] at H
    exact absurd H (by simp)

/-! ### frame_Put: function 38 -/
def frame_Put.f (k : Nat) (a0 : ByteArray) : Option (ByteArray × Int) := if a0.toList = ([] : List UInt8) then (some ((⟨#[]⟩ : ByteArray), 2)) else (if (a0.size : Int) > 4096 then (some ((⟨#[]⟩ : ByteArray), 5)) else ((words_Put.f k 2 (IntKind.u64.wrap ((a0.size : Int)))).bind fun t191 => (if t191.size + a0.size ≤ 9223372036854775807 then ((frame_Sum.f k (t191 ++ a0)).bind fun t192 => ((words_Put.f k 4 (IntKind.u64.wrap (t192))).bind fun t193 => (if t191.size + t193.size ≤ 9223372036854775807 then (if (t191 ++ t193).size + a0.size ≤ 9223372036854775807 then (some ((t191 ++ t193) ++ a0, 0)) else (none)) else (none)))) else (none))))
theorem frame_Put.mono : ∀ a0 k, LeO (frame_Put.f k a0) (frame_Put.f (k + 1) a0) := by
  intro a0 k
  unfold frame_Put.f
  repeat' first
      | (with_reducible exact frame_Sum.mono _ _)
      | (with_reducible exact words_Put.mono _ _ _)
      | (with_reducible exact LeO.refl _)
      | (with_reducible exact LeO.none _)
      | (with_reducible refine LeO.ite ?_ ?_)
      | (with_reducible refine LeO.bind ?_ (fun _ => ?_))
      | exact frame_Sum.mono _ _
      | exact words_Put.mono _ _ _
      | exact LeO.none _
      | refine LeO.ite ?_ ?_
      | refine LeO.bind ?_ (fun _ => ?_)
set_option maxHeartbeats 8000000 in
set_option maxRecDepth 100000 in
theorem frame_Put.calls (k : Nat) (a0 : ByteArray) (r1 : ByteArray) (r2 : Int) (w : World) (h : frame_Put.f k a0 = some (r1, r2)) :
    Calls Try.prog 38 #[.string a0] w fun e w' => e = .returned (.tuple #[.string r1, .int .i64 r2]) ∧ Below w.heap.size w w' := by
  have HB := Aside0.mk (Below.refl w.heap.size w)
  have H : (if a0.toList = ([] : List UInt8) then (some ((⟨#[]⟩ : ByteArray), 2)) else (if (a0.size : Int) > 4096 then (some ((⟨#[]⟩ : ByteArray), 5)) else ((words_Put.f k 2 (IntKind.u64.wrap ((a0.size : Int)))).bind fun t191 => (if t191.size + a0.size ≤ 9223372036854775807 then ((frame_Sum.f k (t191 ++ a0)).bind fun t192 => ((words_Put.f k 4 (IntKind.u64.wrap (t192))).bind fun t193 => (if t191.size + t193.size ≤ 9223372036854775807 then (if (t191 ++ t193).size + a0.size ≤ 9223372036854775807 then (some ((t191 ++ t193) ++ a0, 0)) else (none)) else (none)))) else (none))))) = some (r1, r2) := h
  clear h
  by_cases c2 : a0.toList = ([] : List UInt8)
  · rw [if_pos c2] at H
    have c2b0 : (a0.toList == ([] : List UInt8)) = true := beq_iff_eq.mpr c2
    have c2b1 : (a0.toList != ([] : List UInt8)) = false := bne_eq_false_iff_eq.mpr c2
    clear c2
    simp only [Option.some.injEq, Prod.mk.injEq] at H
    obtain ⟨rfl, rfl⟩ := H
    go_enter Try.func38, Try.ntmps38
    go_wp2
    go_ret2
    exact ⟨by first | rfl | (simp [errW_none, errW_some] <;> rfl) | (simp [*, errW_none, errW_some] <;> rfl), by repeat (first | (with_reducible first | exact HB.out | apply below_alloc | apply pw_below_drewN | apply below_drew1) | exact HB.out)⟩
  · rw [if_neg c2] at H
    have c2b0 : (a0.toList == ([] : List UInt8)) = false := beq_eq_false_iff_ne.mpr c2
    have c2b1 : (a0.toList != ([] : List UInt8)) = true := bne_iff_ne.mpr c2
    by_cases c3 : (a0.size : Int) > 4096
    · rw [if_pos c3] at H
      have c3b0 : decide (4096 < (a0.size : Int)) = true := decide_eq_true c3
      have c3b1 : decide (4096 < a0.size) = true := decide_eq_true (by omega)
      clear c3
      simp only [Option.some.injEq, Prod.mk.injEq] at H
      obtain ⟨rfl, rfl⟩ := H
      go_enter Try.func38, Try.ntmps38
      go_wp2
      go_ret2
      exact ⟨by first | rfl | (simp [errW_none, errW_some] <;> rfl) | (simp [*, errW_none, errW_some] <;> rfl), by repeat (first | (with_reducible first | exact HB.out | apply below_alloc | apply pw_below_drewN | apply below_drew1) | exact HB.out)⟩
    · rw [if_neg c3] at H
      have c3b0 : decide (4096 < (a0.size : Int)) = false := decide_eq_false c3
      have c3b1 : decide (4096 < a0.size) = false := decide_eq_false (by omega)
      clear c3
      replace H := Option.bind_eq_some_iff.mp H
      obtain ⟨t191, A40, H⟩ := H
      replace H : (if t191.size + a0.size ≤ 9223372036854775807 then ((frame_Sum.f k (t191 ++ a0)).bind fun t192 => ((words_Put.f k 4 (IntKind.u64.wrap (t192))).bind fun t193 => (if t191.size + t193.size ≤ 9223372036854775807 then (if (t191 ++ t193).size + a0.size ≤ 9223372036854775807 then (some ((t191 ++ t193) ++ a0, 0)) else (none)) else (none)))) else (none)) = some (r1, r2) := H
      have A4 := Aside0.mk A40
      clear A40
      have hw_ : IntKind.u64.wrap ((a0.size : Int)) = (a0.size : Int) := by have hg_ := of_decide_eq_false c3b0; simp [IntKind.wrap, IntKind.bits, IntKind.signed]; omega
      rw [hw_] at A4
      clear hw_
      by_cases c5 : t191.size + a0.size ≤ 9223372036854775807
      · rw [if_pos c5] at H
        have c5b0 := eq_true c5
        have c5b1 : decide (t191.size + a0.size ≤ 9223372036854775807) = true := decide_eq_true c5
        try have c5b2 : (9223372036854775807 < t191.size + a0.size) = False := eq_false (Nat.not_lt.2 c5)
        replace H := Option.bind_eq_some_iff.mp H
        obtain ⟨t192, A60, H⟩ := H
        replace H : ((words_Put.f k 4 (IntKind.u64.wrap (t192))).bind fun t193 => (if t191.size + t193.size ≤ 9223372036854775807 then (if (t191 ++ t193).size + a0.size ≤ 9223372036854775807 then (some ((t191 ++ t193) ++ a0, 0)) else (none)) else (none))) = some (r1, r2) := H
        have A6 := Aside0.mk A60
        clear A60
        replace H := Option.bind_eq_some_iff.mp H
        obtain ⟨t193, A70, H⟩ := H
        replace H : (if t191.size + t193.size ≤ 9223372036854775807 then (if (t191 ++ t193).size + a0.size ≤ 9223372036854775807 then (some ((t191 ++ t193) ++ a0, 0)) else (none)) else (none)) = some (r1, r2) := H
        have A7 := Aside0.mk A70
        clear A70
        by_cases c8 : t191.size + t193.size ≤ 9223372036854775807
        · rw [if_pos c8] at H
          have c8b0 := eq_true c8
          have c8b1 : decide (t191.size + t193.size ≤ 9223372036854775807) = true := decide_eq_true c8
          try have c8b2 : (9223372036854775807 < t191.size + t193.size) = False := eq_false (Nat.not_lt.2 c8)
          by_cases c9 : (t191 ++ t193).size + a0.size ≤ 9223372036854775807
          · rw [if_pos c9] at H
            have c9b0 := eq_true c9
            have c9b1 : decide ((t191 ++ t193).size + a0.size ≤ 9223372036854775807) = true := decide_eq_true c9
            try have c9b2 : (9223372036854775807 < (t191 ++ t193).size + a0.size) = False := eq_false (Nat.not_lt.2 c9)
            simp only [Option.some.injEq, Prod.mk.injEq] at H
            obtain ⟨rfl, rfl⟩ := H
            go_enter Try.func38, Try.ntmps38
            go_wp2_with (first | ((with_reducible refine gate_callee (f := 25) rfl ?_); refine goesL_ (some 15) rfl rfl Try.func25 (by kernel_rfl) rfl #[.int .i64 2, .int .u64 ((a0.size : Int))] rfl (by (try simp only [List.map_toArray, List.map_cons, List.map_nil]); first | done | rfl | (simp only [List.length_drop, List.length_take]; rfl)) ?_; (with_reducible refine (words_Put.calls k 2 ((a0.size : Int)) t191 _ A4.out).mono ?_); rintro e w10 ⟨rfl, hb⟩; refine ⟨_, rfl, ?_⟩; have n0_ := Aside0.mk (below_step (by repeat (first | (with_reducible first | exact HB.out | apply below_alloc | apply pw_below_drewN | apply below_drew1) | exact HB.out)) hb); clear HB; have HB := n0_; clear n0_; (try clear hb); (try clear hb2); (try clear hk); (try clear hi)) | ((with_reducible refine gate_callee (f := 27) rfl ?_); refine goesL_ (some 20) rfl rfl Try.func27 (by kernel_rfl) rfl #[.string (t191 ++ a0)] rfl (by (try simp only [List.map_toArray, List.map_cons, List.map_nil]); first | done | rfl | (simp only [List.length_drop, List.length_take]; rfl)) ?_; (with_reducible refine (frame_Sum.calls k (t191 ++ a0) t192 _ A6.out).mono ?_); rintro e w' ⟨rfl, ⟨nd, rfl⟩⟩; refine ⟨_, rfl, ?_⟩) | ((with_reducible refine gate_callee (f := 25) rfl ?_); refine goesL_ (some 22) rfl rfl Try.func25 (by kernel_rfl) rfl #[.int .i64 4, .int .u64 (IntKind.u64.wrap (t192))] rfl (by (try simp only [List.map_toArray, List.map_cons, List.map_nil]); first | done | rfl | (simp only [List.length_drop, List.length_take]; rfl)) ?_; (with_reducible refine (words_Put.calls k 4 (IntKind.u64.wrap (t192)) t193 _ A7.out).mono ?_); rintro e w11 ⟨rfl, hb⟩; refine ⟨_, rfl, ?_⟩; have n0_ := Aside0.mk (below_step (by repeat (first | (with_reducible first | exact HB.out | apply below_alloc | apply pw_below_drewN | apply below_drew1) | exact HB.out)) hb); clear HB; have HB := n0_; clear n0_; (try clear hb); (try clear hb2); (try clear hk); (try clear hi)))
            go_ret2
            exact ⟨by first | rfl | (simp [errW_none, errW_some] <;> rfl) | (simp [*, errW_none, errW_some] <;> rfl), by repeat (first | (with_reducible first | exact HB.out | apply below_alloc | apply pw_below_drewN | apply below_drew1) | exact HB.out)⟩
          · rw [if_neg c9] at H
            exact absurd H (by simp)
        · rw [if_neg c8] at H
          exact absurd H (by simp)
      · rw [if_neg c5] at H
        exact absurd H (by simp)

end Go.Proofs.Ytfccgiccllnkkaa.PX
