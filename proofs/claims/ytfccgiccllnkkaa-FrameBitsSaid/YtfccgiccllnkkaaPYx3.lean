-- printed by a program of this session out of the translation; see NOTES.md
import Derived.Test.YtfccgiccllnkkaaPYx0
import Derived.Test.YtfccgiccllnkkaaPYx1
import Derived.Test.YtfccgiccllnkkaaFbTail
import Derived.Tactics
import Derived.Tactics2
import Derived.StillTailTactics
namespace Go.Proofs.Ytfccgiccllnkkaa.PY
open Go.RowKit Go.Proofs.YtfccgiccllnkkaaW.PrintWords Go.Proofs.YtfccgiccllnkkaaW.PrintLast Go.Proofs.YtfccgiccllnkkaaW.PrintMore
attribute [local go_sem] max2_int min2_int max_two min_two max_three min_three max_four min_four   -- for this text's walks alone
set_option linter.unusedVariables false
set_option linter.unusedSimpArgs false

/-! ### precinctlaw03_FrameBits: function 16 -/
mutual
def precinctlaw03_FrameBits.l0 : Nat → Int → Int → List ByteArray → ByteArray → Int → Int → List ByteArray → Int → Int → Option (Bool)
  | 0, _, _, _, _, _, _, _, _, _ => none
  | k + 1, x1, x2, x7, x8, x9, x10, x25, x26, x27 => if x27 < x26 then (if 0 ≤ x27 then (if x27 < (x25.length : Int) then (if 0 ≤ (mn ((rdOf ByteArray.empty x25 x27).size : Int) 300) then (if (mn ((rdOf ByteArray.empty x25 x27).size : Int) 300) ≤ ((rdOf ByteArray.empty x25 x27).size : Int) then (if ((rdOf ByteArray.empty x25 x27).extract 0 ((mn ((rdOf ByteArray.empty x25 x27).size : Int) 300) : Int).toNat).toList = ([] : List UInt8) then (precinctlaw03_FrameBits.l0 k x1 x2 x7 x8 x9 x10 x25 x26 (wrap64 (x27 + 1))) else (if x7.length < 8796093022208 then (precinctlaw03_FrameBits.l0 k x1 x2 (x7 ++ [(rdOf ByteArray.empty x25 x27).extract 0 ((mn ((rdOf ByteArray.empty x25 x27).size : Int) 300) : Int).toNat]) x8 x9 x10 x25 x26 (wrap64 (x27 + 1))) else (none))) else (none)) else (none)) else (none)) else (none)) else ((precinctlaw03_wakes.f k).bind fun t131 => (if t131 = true then (precinctlaw03_FrameBits.j1 k x1 x2 x7 x8 x9 x10 ((x7.length : Int) == 0)) else (precinctlaw03_FrameBits.j1 k x1 x2 x7 x8 x9 x10 true)))
def precinctlaw03_FrameBits.j1 : Nat → Int → Int → List ByteArray → ByteArray → Int → Int → Bool → Option (Bool)
  | 0, _, _, _, _, _, _, _ => none
  | k + 1, x1, x2, x7, x8, x9, x10, x49 => if x49 = true then ((precinctlaw03_wakes.f k).bind fun t132 => (some t132)) else (if (x7.length : Int) = 0 then (none) else (precinctlaw03_FrameBits.l1 k ((mx 0 x1) % (x7.length : Int)) x2 x7 x8 x9 x10 x7 (x7.length : Int) 0))
def precinctlaw03_FrameBits.l1 : Nat → Int → Int → List ByteArray → ByteArray → Int → Int → List ByteArray → Int → Int → Option (Bool)
  | 0, _, _, _, _, _, _, _, _, _ => none
  | k + 1, x1, x2, x7, x8, x9, x10, x56, x57, x58 => if x58 < x57 then (if 0 ≤ x58 then (if x58 < (x56.length : Int) then ((frame_Put.f k (rdOf ByteArray.empty x56 x58)).bind fun bt134 => (if bt134.2 = 0 then (precinctlaw03_FrameBits.j3 k x1 x2 x7 x8 x9 x10 x58 bt134.1 x56 x57 x58 (decide ((bt134.1.size : Int) < 7))) else (precinctlaw03_FrameBits.j3 k x1 x2 x7 x8 x9 x10 x58 bt134.1 x56 x57 x58 true))) else (none)) else (none)) else (if (wrap64 (8 * x10)) = 0 then (none) else (Words.tailF k x8 x9 ((mx 0 x2) % (wrap64 (8 * x10))) x7 x1))
def precinctlaw03_FrameBits.j3 : Nat → Int → Int → List ByteArray → ByteArray → Int → Int → Int → ByteArray → List ByteArray → Int → Int → Bool → Option (Bool)
  | 0, _, _, _, _, _, _, _, _, _, _, _, _ => none
  | k + 1, x1, x2, x7, x8, x9, x10, x13, x15, x56, x57, x58, x74 => if x74 = true then (some false) else (if x13 = x1 then (if x8.size + x15.size ≤ 9223372036854775807 then (precinctlaw03_FrameBits.l1 k x1 x2 x7 (x8 ++ x15) (wrap64 ((x8.size : Int) + 2)) (wrap64 ((x15.size : Int) - 2)) x56 x57 (wrap64 (x58 + 1))) else (none)) else (if x8.size + x15.size ≤ 9223372036854775807 then (precinctlaw03_FrameBits.l1 k x1 x2 x7 (x8 ++ x15) x9 x10 x56 x57 (wrap64 (x58 + 1))) else (none)))
end
def precinctlaw03_FrameBits.f (k : Nat) (l0 : List ByteArray) (a1 : Int) (a2 : Int) : Option (Bool) := if 0 ≤ (mn (l0.length : Int) 10) then (if (mn (l0.length : Int) 10) ≤ (l0.length : Int) then (precinctlaw03_FrameBits.l0 k a1 a2 ([] : List ByteArray) (⟨#[]⟩ : ByteArray) 0 0 (l0.take ((mn (l0.length : Int) 10) : Int).toNat) ((l0.take ((mn (l0.length : Int) 10) : Int).toNat).length : Int) 0) else (none)) else (none)
theorem precinctlaw03_FrameBits.mono_l : ∀ k, (∀ y0 y1 y2 y3 y4 y5 y6 y7 y8, LeO (precinctlaw03_FrameBits.l0 k y0 y1 y2 y3 y4 y5 y6 y7 y8) (precinctlaw03_FrameBits.l0 (k + 1) y0 y1 y2 y3 y4 y5 y6 y7 y8)) ∧ (∀ y0 y1 y2 y3 y4 y5 y6, LeO (precinctlaw03_FrameBits.j1 k y0 y1 y2 y3 y4 y5 y6) (precinctlaw03_FrameBits.j1 (k + 1) y0 y1 y2 y3 y4 y5 y6)) ∧ (∀ y0 y1 y2 y3 y4 y5 y6 y7 y8, LeO (precinctlaw03_FrameBits.l1 k y0 y1 y2 y3 y4 y5 y6 y7 y8) (precinctlaw03_FrameBits.l1 (k + 1) y0 y1 y2 y3 y4 y5 y6 y7 y8)) ∧ (∀ y0 y1 y2 y3 y4 y5 y6 y7 y8 y9 y10 y11, LeO (precinctlaw03_FrameBits.j3 k y0 y1 y2 y3 y4 y5 y6 y7 y8 y9 y10 y11) (precinctlaw03_FrameBits.j3 (k + 1) y0 y1 y2 y3 y4 y5 y6 y7 y8 y9 y10 y11))
  | 0 => ⟨fun _ _ _ _ _ _ _ _ _ r h => by simp [precinctlaw03_FrameBits.l0] at h, fun _ _ _ _ _ _ _ r h => by simp [precinctlaw03_FrameBits.j1] at h, fun _ _ _ _ _ _ _ _ _ r h => by simp [precinctlaw03_FrameBits.l1] at h, fun _ _ _ _ _ _ _ _ _ _ _ _ r h => by simp [precinctlaw03_FrameBits.j3] at h⟩
  | k + 1 => by
    obtain ⟨ih0, ih1, ih2, ih3⟩ := precinctlaw03_FrameBits.mono_l k
    refine ⟨?_, ?_, ?_, ?_⟩
    · intro y0 y1 y2 y3 y4 y5 y6 y7 y8
      unfold precinctlaw03_FrameBits.l0
      repeat' first
      | (with_reducible exact ih0 _ _ _ _ _ _ _ _ _)
      | (with_reducible exact ih1 _ _ _ _ _ _ _)
      | (with_reducible exact ih2 _ _ _ _ _ _ _ _ _)
      | (with_reducible exact ih3 _ _ _ _ _ _ _ _ _ _ _ _)
      | (with_reducible exact frame_Put.mono _ _)
      | (with_reducible exact precinctlaw03_wakes.mono _)
      | (with_reducible exact Words.tailF.mono _ _ _ _ _ _)
      | (with_reducible exact LeO.refl _)
      | (with_reducible exact LeO.none _)
      | (with_reducible refine LeO.ite ?_ ?_)
      | (with_reducible refine LeO.bind ?_ (fun _ => ?_))
      | exact ih0 _ _ _ _ _ _ _ _ _
      | exact ih1 _ _ _ _ _ _ _
      | exact ih2 _ _ _ _ _ _ _ _ _
      | exact ih3 _ _ _ _ _ _ _ _ _ _ _ _
      | exact frame_Put.mono _ _
      | exact precinctlaw03_wakes.mono _
      | exact LeO.none _
      | refine LeO.ite ?_ ?_
      | refine LeO.bind ?_ (fun _ => ?_)
    · intro y0 y1 y2 y3 y4 y5 y6
      unfold precinctlaw03_FrameBits.j1
      repeat' first
      | (with_reducible exact ih0 _ _ _ _ _ _ _ _ _)
      | (with_reducible exact ih1 _ _ _ _ _ _ _)
      | (with_reducible exact ih2 _ _ _ _ _ _ _ _ _)
      | (with_reducible exact ih3 _ _ _ _ _ _ _ _ _ _ _ _)
      | (with_reducible exact frame_Put.mono _ _)
      | (with_reducible exact precinctlaw03_wakes.mono _)
      | (with_reducible exact Words.tailF.mono _ _ _ _ _ _)
      | (with_reducible exact LeO.refl _)
      | (with_reducible exact LeO.none _)
      | (with_reducible refine LeO.ite ?_ ?_)
      | (with_reducible refine LeO.bind ?_ (fun _ => ?_))
      | exact ih0 _ _ _ _ _ _ _ _ _
      | exact ih1 _ _ _ _ _ _ _
      | exact ih2 _ _ _ _ _ _ _ _ _
      | exact ih3 _ _ _ _ _ _ _ _ _ _ _ _
      | exact frame_Put.mono _ _
      | exact precinctlaw03_wakes.mono _
      | exact LeO.none _
      | refine LeO.ite ?_ ?_
      | refine LeO.bind ?_ (fun _ => ?_)
    · intro y0 y1 y2 y3 y4 y5 y6 y7 y8
      unfold precinctlaw03_FrameBits.l1
      repeat' first
      | (with_reducible exact ih0 _ _ _ _ _ _ _ _ _)
      | (with_reducible exact ih1 _ _ _ _ _ _ _)
      | (with_reducible exact ih2 _ _ _ _ _ _ _ _ _)
      | (with_reducible exact ih3 _ _ _ _ _ _ _ _ _ _ _ _)
      | (with_reducible exact frame_Put.mono _ _)
      | (with_reducible exact precinctlaw03_wakes.mono _)
      | (with_reducible exact Words.tailF.mono _ _ _ _ _ _)
      | (with_reducible exact LeO.refl _)
      | (with_reducible exact LeO.none _)
      | (with_reducible refine LeO.ite ?_ ?_)
      | (with_reducible refine LeO.bind ?_ (fun _ => ?_))
      | exact ih0 _ _ _ _ _ _ _ _ _
      | exact ih1 _ _ _ _ _ _ _
      | exact ih2 _ _ _ _ _ _ _ _ _
      | exact ih3 _ _ _ _ _ _ _ _ _ _ _ _
      | exact frame_Put.mono _ _
      | exact precinctlaw03_wakes.mono _
      | exact LeO.none _
      | refine LeO.ite ?_ ?_
      | refine LeO.bind ?_ (fun _ => ?_)
    · intro y0 y1 y2 y3 y4 y5 y6 y7 y8 y9 y10 y11
      unfold precinctlaw03_FrameBits.j3
      repeat' first
      | (with_reducible exact ih0 _ _ _ _ _ _ _ _ _)
      | (with_reducible exact ih1 _ _ _ _ _ _ _)
      | (with_reducible exact ih2 _ _ _ _ _ _ _ _ _)
      | (with_reducible exact ih3 _ _ _ _ _ _ _ _ _ _ _ _)
      | (with_reducible exact frame_Put.mono _ _)
      | (with_reducible exact precinctlaw03_wakes.mono _)
      | (with_reducible exact Words.tailF.mono _ _ _ _ _ _)
      | (with_reducible exact LeO.refl _)
      | (with_reducible exact LeO.none _)
      | (with_reducible refine LeO.ite ?_ ?_)
      | (with_reducible refine LeO.bind ?_ (fun _ => ?_))
      | exact ih0 _ _ _ _ _ _ _ _ _
      | exact ih1 _ _ _ _ _ _ _
      | exact ih2 _ _ _ _ _ _ _ _ _
      | exact ih3 _ _ _ _ _ _ _ _ _ _ _ _
      | exact frame_Put.mono _ _
      | exact precinctlaw03_wakes.mono _
      | exact LeO.none _
      | refine LeO.ite ?_ ?_
      | refine LeO.bind ?_ (fun _ => ?_)
theorem precinctlaw03_FrameBits.mono : ∀ a0 a1 a2 k, LeO (precinctlaw03_FrameBits.f k a0 a1 a2) (precinctlaw03_FrameBits.f (k + 1) a0 a1 a2) := by
  intro a0 a1 a2 k
  obtain ⟨ih0, ih1, ih2, ih3⟩ := precinctlaw03_FrameBits.mono_l k
  unfold precinctlaw03_FrameBits.f
  repeat' first
      | (with_reducible exact ih0 _ _ _ _ _ _ _ _ _)
      | (with_reducible exact ih1 _ _ _ _ _ _ _)
      | (with_reducible exact ih2 _ _ _ _ _ _ _ _ _)
      | (with_reducible exact ih3 _ _ _ _ _ _ _ _ _ _ _ _)
      | (with_reducible exact frame_Put.mono _ _)
      | (with_reducible exact precinctlaw03_wakes.mono _)
      | (with_reducible exact Words.tailF.mono _ _ _ _ _ _)
      | (with_reducible exact LeO.refl _)
      | (with_reducible exact LeO.none _)
      | (with_reducible refine LeO.ite ?_ ?_)
      | (with_reducible refine LeO.bind ?_ (fun _ => ?_))
      | exact ih0 _ _ _ _ _ _ _ _ _
      | exact ih1 _ _ _ _ _ _ _
      | exact ih2 _ _ _ _ _ _ _ _ _
      | exact ih3 _ _ _ _ _ _ _ _ _ _ _ _
      | exact frame_Put.mono _ _
      | exact precinctlaw03_wakes.mono _
      | exact LeO.none _
      | refine LeO.ite ?_ ?_
      | refine LeO.bind ?_ (fun _ => ?_)
set_option maxHeartbeats 8000000 in
set_option maxRecDepth 100000 in
theorem precinctlaw03_FrameBits.calls (k : Nat) (A0 : Option Addr) (c0 : Nat) (l0 : List ByteArray) (a1 : Int) (a2 : Int) (r : Bool) (w : World) (hr0 : Kd.C Kd.string w A0 l0.length l0) (hc0 : l0.length ≤ c0) (hT_ : Aside0 (r = true)) (h : precinctlaw03_FrameBits.f k l0 a1 a2 = some r) :
    Calls Try.prog 16 #[.slice A0 l0.length c0, .int .i64 a1, .int .i64 a2] w fun e w' => e = .returned (.bool r) ∧ Below w.heap.size w w' := by
  have HR0 := Aside0.mk hr0
  have HC0 := Aside0.mk hc0
  clear hr0 hc0
  have HB := Aside0.mk (Below.refl w.heap.size w)
  have H : (if 0 ≤ (mn (l0.length : Int) 10) then (if (mn (l0.length : Int) 10) ≤ (l0.length : Int) then (precinctlaw03_FrameBits.l0 k a1 a2 ([] : List ByteArray) (⟨#[]⟩ : ByteArray) 0 0 (l0.take ((mn (l0.length : Int) 10) : Int).toNat) ((l0.take ((mn (l0.length : Int) 10) : Int).toNat).length : Int) 0) else (none)) else (none)) = some r := h
  clear h
  obtain ⟨ji4, hji4⟩ : ∃ j_ : Int, (mn (l0.length : Int) 10) = j_ := ⟨_, rfl⟩
  replace H : (if 0 ≤ (ji4) then (if (ji4) ≤ (l0.length : Int) then (precinctlaw03_FrameBits.l0 k a1 a2 ([] : List ByteArray) (⟨#[]⟩ : ByteArray) 0 0 (l0.take ((ji4) : Int).toNat) ((l0.take ((ji4) : Int).toNat).length : Int) 0) else (none)) else (none)) = some r := by first | (rw [hji4] at H; exact H) | (simp only [hji4] at H ⊢; exact H)
  (try (have hji4h : ji4 ≤ 10 := by (rw [← hji4]; unfold mn; (repeat' split) <;> omega)))
  (try (have hji4g : ji4 ≤ 64 := by omega))
  (try (have hji4l : 0 ≤ ji4 := by (rw [← hji4]; unfold mn; (repeat' split) <;> omega)))
  (try (have hji4m : 0 ≤ ji4 := by omega))
  have hji4_ : (if 10 < (l0.length : Int) then 10 else (l0.length : Int)) = ji4 := hji4
  by_cases c5 : 0 ≤ (ji4)
  · rw [if_pos c5] at H
    have c5b0 := eq_true c5
    have c5b1 : decide (0 ≤ (ji4)) = true := decide_eq_true c5
    clear c5
    by_cases c6 : (ji4) ≤ (l0.length : Int)
    · rw [if_pos c6] at H
      have c6b0 := eq_true c6
      have c6b1 : decide ((ji4) ≤ (l0.length : Int)) = true := decide_eq_true c6
      clear c6
      have H' := Aside0.mk H
      clear H
      obtain ⟨i07, hi07, _, hsz7, _⟩ := info_parts info9
      obtain ⟨hcut7, hA7, hC7⟩ := print_take_of (P := Try.prog) Value.string (⟨#[]⟩ : ByteArray) 53 9 .i64 Try.underlying53 hi07 hsz7 A0 c0 l0 (ji4) (of_decide_eq_true (by first | (with_reducible assumption) | assumption)) (of_decide_eq_true (by first | (with_reducible assumption) | assumption)) HC0.out
      have HR126 := Aside0.mk (Kd.C_of_reads (h1 := fun _ => rfl) (hA7 _ (Kd.reads_of_C HR0.out)))
      have HC126 := Aside0.mk hC7
      clear hA7 hC7 hi07 hsz7
      go_enter Try.func16, Try.ntmps16
      go_wp2
      go_loopg [7, 27] k (fun kq v7 v27 w' => ∃ (x7_1 : List ByteArray) (x27_1 : Int), v27 = .int .i64 x27_1 ∧ Aside0 (precinctlaw03_FrameBits.l0 kq a1 a2 x7_1 (⟨#[]⟩ : ByteArray) 0 0 (l0.take ((ji4) : Int).toNat) ((l0.take ((ji4) : Int).toNat).length : Int) x27_1 = some r) ∧ Aside0 (kq ≤ k) ∧ Aside0 (Kd.R Kd.string 9 w' w.heap.size (fun _ => True) v7 x7_1) ∧ Aside0 (Below w.heap.size w w'))
      case atStart => exact ⟨(([] : List ByteArray)), (0), (by first | rfl | (simp; done) | (simp [*]; done)), H', ⟨Nat.le_refl _⟩, ⟨by first | exact Kd.R_nil _ _ _ _ _ | exact Kd.N_nil _ _ _ _ _ | exact Kd.V_nil _ _ _ _ _ | exact Kd.Q_nil _ _ _ _ _ | exact Kd.S_nil _ _ _ _ _⟩, ⟨by repeat (first | (with_reducible first | exact HB.out | apply below_alloc | apply pw_below_drewN | apply below_drew1) | exact HB.out)⟩⟩
      case round =>
        clear H'
        try clear c1
        try clear p2
        try clear c5
        try clear c5b0
        try clear c5b1
        try clear c6
        try clear c6b0
        try clear c6b1
        obtain ⟨x7_1, x27_1, rfl, HA, HK1, HO_7, HB⟩ := hrel
        cases gk with
        | zero => exact absurd HA.out (by simp [precinctlaw03_FrameBits.l0])
        | succ k1 =>
          have H := HA.out
          clear HA
          simp only [precinctlaw03_FrameBits.l0] at H
          by_cases c8 : x27_1 < ((l0.take ((ji4) : Int).toNat).length : Int)
          · rw [if_pos c8] at H
            have c8b0 : decide (x27_1 < ((l0.take ((ji4) : Int).toNat).length : Int)) = true := decide_eq_true c8
            (try have c8b0y : decide (x27_1 < max ji4 0) = true := by (have h_ := of_decide_eq_true c8b0; rw [List.length_take] at h_; exact decide_eq_true (by (have h2_ := hji4_; split at h2_ <;> omega))))
            clear c8
            by_cases c9 : 0 ≤ x27_1
            · rw [if_pos c9] at H
              have c9b0 : decide (0 ≤ x27_1) = true := decide_eq_true c9
              clear c9
              by_cases c10 : x27_1 < ((l0.take ((ji4) : Int).toNat).length : Int)
              · rw [if_pos c10] at H
                have c10b0 : decide (x27_1 < ((l0.take ((ji4) : Int).toNat).length : Int)) = true := decide_eq_true c10
                (try have c10b0y : decide (x27_1 < max ji4 0) = true := by (have h_ := of_decide_eq_true c10b0; rw [List.length_take] at h_; exact decide_eq_true (by (have h2_ := hji4_; split at h2_ <;> omega))))
                clear c10
                obtain ⟨ji11, hji11⟩ : ∃ j_ : Int, (mn ((rdOf ByteArray.empty (l0.take ((ji4) : Int).toNat) x27_1).size : Int) 300) = j_ := ⟨_, rfl⟩
                replace H : (if 0 ≤ (ji11) then (if (ji11) ≤ ((rdOf ByteArray.empty (l0.take ((ji4) : Int).toNat) x27_1).size : Int) then (if ((rdOf ByteArray.empty (l0.take ((ji4) : Int).toNat) x27_1).extract 0 ((ji11) : Int).toNat).toList = ([] : List UInt8) then (precinctlaw03_FrameBits.l0 k1 a1 a2 x7_1 (⟨#[]⟩ : ByteArray) 0 0 (l0.take ((ji4) : Int).toNat) ((l0.take ((ji4) : Int).toNat).length : Int) (wrap64 (x27_1 + 1))) else (if x7_1.length < 8796093022208 then (precinctlaw03_FrameBits.l0 k1 a1 a2 (x7_1 ++ [(rdOf ByteArray.empty (l0.take ((ji4) : Int).toNat) x27_1).extract 0 ((ji11) : Int).toNat]) (⟨#[]⟩ : ByteArray) 0 0 (l0.take ((ji4) : Int).toNat) ((l0.take ((ji4) : Int).toNat).length : Int) (wrap64 (x27_1 + 1))) else (none))) else (none)) else (none)) = some r := by first | (rw [hji11] at H; exact H) | (simp only [hji11] at H ⊢; exact H)
                have hji11_ : (if 300 < ((rdOf ByteArray.empty (l0.take ((ji4) : Int).toNat) x27_1).size : Int) then 300 else ((rdOf ByteArray.empty (l0.take ((ji4) : Int).toNat) x27_1).size : Int)) = ji11 := hji11
                by_cases c12 : 0 ≤ (ji11)
                · rw [if_pos c12] at H
                  have c12b0 := eq_true c12
                  have c12b1 : decide (0 ≤ (ji11)) = true := decide_eq_true c12
                  clear c12
                  by_cases c13 : (ji11) ≤ ((rdOf ByteArray.empty (l0.take ((ji4) : Int).toNat) x27_1).size : Int)
                  · rw [if_pos c13] at H
                    have c13b0 := eq_true c13
                    have c13b1 : decide ((ji11) ≤ ((rdOf ByteArray.empty (l0.take ((ji4) : Int).toNat) x27_1).size : Int)) = true := decide_eq_true c13
                    clear c13
                    by_cases c14 : ((rdOf ByteArray.empty (l0.take ((ji4) : Int).toNat) x27_1).extract 0 ((ji11) : Int).toNat).toList = ([] : List UInt8)
                    · rw [if_pos c14] at H
                      have c14b0 : (((rdOf ByteArray.empty (l0.take ((ji4) : Int).toNat) x27_1).extract 0 ((ji11) : Int).toNat).toList == ([] : List UInt8)) = true := beq_iff_eq.mpr c14
                      have c14b1 : (((rdOf ByteArray.empty (l0.take ((ji4) : Int).toNat) x27_1).extract 0 ((ji11) : Int).toNat).toList != ([] : List UInt8)) = false := bne_eq_false_iff_eq.mpr c14
                      clear c14
                      have H' := Aside0.mk H
                      clear H
                      have p127 : 0 ≤ (x27_1 : Int) := of_decide_eq_true (by first | (with_reducible assumption) | assumption)
                      have q127 : x27_1 < ((l0.take ((ji4) : Int).toNat).length : Int) := of_decide_eq_true (by first | (with_reducible assumption) | assumption)
                      obtain ⟨ad127, e127, hx127_0⟩ := Kd.at_string HR126.out x27_1 p127 q127
                      cases e127
                      replace hx127_0 := (HB.out.cell (World.block_lt_of_cell? w _ hx127_0)).trans hx127_0
                      replace p127 := eq_true p127
                      replace q127 := eq_true q127
                      (try have q127y : (x27_1 < max ji4 0) = True := eq_true (of_decide_eq_true (by assumption)))
                      go_wp2
                      go_roundg k1
                      case measure => have := HK1.out; omega
                      case rel => exact ⟨(x7_1), (wrap64 (x27_1 + 1)), (by first | rfl | (simp; done) | (simp [*]; done)), H', ⟨by have := HK1.out; omega⟩, ⟨by (with_reducible repeat (first | apply Kd.R_alloc | apply Kd.R_drewN | apply Kd.R_drew)); exact HO_7.out⟩, ⟨by repeat (first | (with_reducible first | exact HB.out | apply below_alloc | apply pw_below_drewN | apply below_drew1) | exact HB.out)⟩⟩
                    · rw [if_neg c14] at H
                      have c14b0 : (((rdOf ByteArray.empty (l0.take ((ji4) : Int).toNat) x27_1).extract 0 ((ji11) : Int).toNat).toList == ([] : List UInt8)) = false := beq_eq_false_iff_ne.mpr c14
                      have c14b1 : (((rdOf ByteArray.empty (l0.take ((ji4) : Int).toNat) x27_1).extract 0 ((ji11) : Int).toNat).toList != ([] : List UInt8)) = true := bne_iff_ne.mpr c14
                      by_cases c15 : x7_1.length < 8796093022208
                      · rw [if_pos c15] at H
                        have LMc15 := Aside0.mk c15
                        clear c15
                        obtain ⟨y128, hy128⟩ : ∃ y_ : List ByteArray, y_ = (x7_1 ++ [(rdOf ByteArray.empty (l0.take ((ji4) : Int).toNat) x27_1).extract 0 ((ji11) : Int).toNat]) := ⟨_, rfl⟩
                        replace H : (precinctlaw03_FrameBits.l0 k1 a1 a2 y128 (⟨#[]⟩ : ByteArray) 0 0 (l0.take ((ji4) : Int).toNat) ((l0.take ((ji4) : Int).toNat).length : Int) (wrap64 (x27_1 + 1))) = some r := by first | (rw [hy128]; with_reducible exact H) | (have H2_ := (Option.bind_some _ _).symm.trans H; rw [hy128]; with_reducible exact H2_) | (have H2_ := (Option.bind_some _ _).symm.trans H; with_reducible exact H2_) | with_reducible exact H | (rw [hy128]; exact H) | exact H
                        have Ny128 := Aside0.mk hy128
                        clear hy128
                        have H' := Aside0.mk H
                        clear H
                        have p127 : 0 ≤ (x27_1 : Int) := of_decide_eq_true (by first | (with_reducible assumption) | assumption)
                        have q127 : x27_1 < ((l0.take ((ji4) : Int).toNat).length : Int) := of_decide_eq_true (by first | (with_reducible assumption) | assumption)
                        obtain ⟨ad127, e127, hx127_0⟩ := Kd.at_string HR126.out x27_1 p127 q127
                        cases e127
                        replace hx127_0 := (HB.out.cell (World.block_lt_of_cell? w _ hx127_0)).trans hx127_0
                        replace p127 := eq_true p127
                        replace q127 := eq_true q127
                        (try have q127y : (x27_1 < max ji4 0) = True := eq_true (of_decide_eq_true (by assumption)))
                        go_wp2_with (first | ((with_reducible refine gate_builtin (b := .append) (xs := #[.tmp 38, .tmp 40]) rfl ?_); (try (refine gate_guard (by rfl) ?_; dsimp only)); at_builtin; refine Kd.R_append Kd.string (w0 := w) w.heap.size rfl (.tmp 38) (.tmp 40) 53 9 (.string ⟨#[]⟩) 16 rfl Try.underlying53 info9 rfl (by decide) (by omega) u7 x7_1 ((rdOf ByteArray.empty (l0.take ((ji4) : Int).toNat) x27_1).extract 0 ((ji11) : Int).toNat) [.string ((rdOf ByteArray.empty (l0.take ((ji4) : Int).toNat) x27_1).extract 0 ((ji11) : Int).toNat)] (fun _ => True) (fun _ => False) rfl rfl ?aP (fun _ hk => hk.elim) ?aF ?aO ?aB ?aS ?aL ?_; (case aP => exact rfl); (case aB => exact (by repeat (first | (with_reducible first | exact HB.out | apply below_alloc | apply pw_below_drewN | apply below_drew1) | exact HB.out))); (case aF => exact (fun _ _ => trivial)); (case aO => exact (by (with_reducible repeat (first | apply Kd.R_alloc | apply Kd.R_drewN | apply Kd.R_drew)); exact HO_7.out)); (case aS => exact (below_size (by repeat (first | (with_reducible first | exact HB.out | apply below_alloc | apply pw_below_drewN | apply below_drew1) | exact HB.out)))); (case aL => have := LMc15.out; omega); intro v129 w16 ho hb hg hat; rw [← Ny128.out] at ho; have n0_ := Aside0.mk (hb); have n1_ := Aside0.mk (ho); clear HB; clear HO_7; have HB := n0_; have HO130 := n1_; clear n0_ n1_; clear ho hb hg hat))
                        go_roundg k1
                        case measure => have := HK1.out; omega
                        case rel => exact ⟨(y128), (wrap64 (x27_1 + 1)), (by first | rfl | (simp; done) | (simp [*]; done)), H', ⟨by have := HK1.out; omega⟩, ⟨by (with_reducible repeat (first | apply Kd.R_alloc | apply Kd.R_drewN | apply Kd.R_drew)); exact HO130.out⟩, ⟨by repeat (first | (with_reducible first | exact HB.out | apply below_alloc | apply pw_below_drewN | apply below_drew1) | exact HB.out)⟩⟩
                      · rw [if_neg c15] at H
                        exact absurd H (by simp)
                  · rw [if_neg c13] at H
                    exact absurd H (by simp)
                · rw [if_neg c12] at H
                  exact absurd H (by simp)
              · rw [if_neg c10] at H
                exact absurd H (by simp)
            · rw [if_neg c9] at H
              exact absurd H (by simp)
          · rw [if_neg c8] at H
            have c8b0 : decide (x27_1 < ((l0.take ((ji4) : Int).toNat).length : Int)) = false := decide_eq_false c8
            (try have c8b0y : decide (x27_1 < max ji4 0) = false := by (have h_ := of_decide_eq_false c8b0; rw [List.length_take] at h_; exact decide_eq_false (by (have h2_ := hji4_; split at h2_ <;> omega))))
            clear c8
            have HC17 := Aside0.mk H
            clear H
            go_upto_region 11 with (fail)
            go_cut [49] (fun v49 wc => ∃ (kq : Nat) (x49_16 : Bool), v49 = .bool x49_16 ∧ Aside0 (precinctlaw03_FrameBits.j1 kq a1 a2 x7_1 (⟨#[]⟩ : ByteArray) 0 0 x49_16 = some r) ∧ Aside0 (kq ≤ k1) ∧ Aside0 (Kd.R Kd.string 9 wc w.heap.size (fun _ => True) u7 x7_1) ∧ Aside0 (Below w.heap.size w wc))
            case first =>
              have H := HC17.out
              clear HC17
              replace H := Option.bind_eq_some_iff.mp H
              obtain ⟨t131, A180, H⟩ := H
              replace H : (if t131 = true then (precinctlaw03_FrameBits.j1 k1 a1 a2 x7_1 (⟨#[]⟩ : ByteArray) 0 0 ((x7_1.length : Int) == 0)) else (precinctlaw03_FrameBits.j1 k1 a1 a2 x7_1 (⟨#[]⟩ : ByteArray) 0 0 true)) = some r := H
              have A18 := Aside0.mk A180
              clear A180
              by_cases c19 : t131 = true
              · subst c19
                have H1 : (precinctlaw03_FrameBits.j1 k1 a1 a2 x7_1 (⟨#[]⟩ : ByteArray) 0 0 ((x7_1.length : Int) == 0)) = some r := by rw [if_pos rfl] at H; exact H
                clear H
                have H := H1
                clear H1
                have H' := Aside0.mk H
                clear H
                go_wp2_with (first | ((with_reducible refine gate_callee (f := 40) rfl ?_); refine goesL_ (some 43) rfl rfl Try.func40 (by kernel_rfl) rfl #[] rfl (by (try simp only [List.map_toArray, List.map_cons, List.map_nil]); first | done | rfl | (simp only [List.length_drop, List.length_take]; rfl)) ?_; (with_reducible refine (precinctlaw03_wakes.calls k1  true _ A18.out).mono ?_); rintro e w20 ⟨rfl, hb⟩; refine ⟨_, rfl, ?_⟩; have n0_ := Aside0.mk (Kd.R_below (by (with_reducible repeat (first | apply Kd.R_alloc | apply Kd.R_drewN | apply Kd.R_drew)); exact HO_7.out) hb); have n1_ := Aside0.mk (below_step (by repeat (first | (with_reducible first | exact HB.out | apply below_alloc | apply pw_below_drewN | apply below_drew1) | exact HB.out)) hb); clear HO_7; clear HB; have HO_7 := n0_; have HB := n1_; clear n0_ n1_; (try clear hb); (try clear hb2); (try clear hk); (try clear hi); obtain ⟨Ao21, co21, eo21⟩ := Kd.R_slice HO_7.out; subst eo21))
                go_meet
                case rel => exact ⟨_, (((x7_1.length : Int) == 0)), (by first | rfl | (simp; done) | (simp [*]; done)), H', ⟨by have := HK1.out; first | omega | exact Nat.le_refl _⟩, ⟨by (with_reducible repeat (first | apply Kd.R_alloc | apply Kd.R_drewN | apply Kd.R_drew)); exact HO_7.out⟩, ⟨by repeat (first | (with_reducible first | exact HB.out | apply below_alloc | apply pw_below_drewN | apply below_drew1) | exact HB.out)⟩⟩
              · replace c19 := Bool.eq_false_iff.mpr c19
                subst c19
                have H1 : (precinctlaw03_FrameBits.j1 k1 a1 a2 x7_1 (⟨#[]⟩ : ByteArray) 0 0 true) = some r := by rw [if_neg (show ¬ (false = true) by decide)] at H; exact H
                clear H
                have H := H1
                clear H1
                have H' := Aside0.mk H
                clear H
                go_wp2_with (first | ((with_reducible refine gate_callee (f := 40) rfl ?_); refine goesL_ (some 43) rfl rfl Try.func40 (by kernel_rfl) rfl #[] rfl (by (try simp only [List.map_toArray, List.map_cons, List.map_nil]); first | done | rfl | (simp only [List.length_drop, List.length_take]; rfl)) ?_; (with_reducible refine (precinctlaw03_wakes.calls k1  false _ A18.out).mono ?_); rintro e w22 ⟨rfl, hb⟩; refine ⟨_, rfl, ?_⟩; have n0_ := Aside0.mk (Kd.R_below (by (with_reducible repeat (first | apply Kd.R_alloc | apply Kd.R_drewN | apply Kd.R_drew)); exact HO_7.out) hb); have n1_ := Aside0.mk (below_step (by repeat (first | (with_reducible first | exact HB.out | apply below_alloc | apply pw_below_drewN | apply below_drew1) | exact HB.out)) hb); clear HO_7; clear HB; have HO_7 := n0_; have HB := n1_; clear n0_ n1_; (try clear hb); (try clear hb2); (try clear hk); (try clear hi)))
                go_meet
                case rel => exact ⟨_, (true), (by first | rfl | (simp; done) | (simp [*]; done)), H', ⟨by have := HK1.out; first | omega | exact Nat.le_refl _⟩, ⟨by (with_reducible repeat (first | apply Kd.R_alloc | apply Kd.R_drewN | apply Kd.R_drew)); exact HO_7.out⟩, ⟨by repeat (first | (with_reducible first | exact HB.out | apply below_alloc | apply pw_below_drewN | apply below_drew1) | exact HB.out)⟩⟩
            case rest =>
              clear HC17
              try clear c1
              try clear p1
              try clear q1
              try clear hx1
              try clear p2
              try clear c4
              try clear c5
              try clear c5b0
              try clear c5b1
              try clear c6
              try clear c6b0
              try clear c6b1
              try clear p6
              try clear c8
              try clear c8b0
              try clear c9
              try clear c9b0
              try clear c10
              try clear c10b0
              try clear c12
              try clear c12b0
              try clear c12b1
              try clear p12
              try clear q12
              try clear hx12
              try clear c13
              try clear c13b0
              try clear c13b1
              try clear c14
              try clear c14b0
              try clear c14b1
              try clear c15
              try clear c16
              try clear c19
              try clear hx127_0
              try clear p127
              try clear p2
              try clear q127
              obtain ⟨kq, x49_16, rfl, HA, HJ16, HO_7, HB⟩ := hcut
              cases kq with
              | zero => exact absurd HA.out (by simp [precinctlaw03_FrameBits.j1])
              | succ kj16 =>
                have H := HA.out
                clear HA
                simp only [precinctlaw03_FrameBits.j1] at H
                by_cases c23 : x49_16 = true
                · subst c23
                  have H1 : ((precinctlaw03_wakes.f kj16).bind fun t132 => (some t132)) = some r := by rw [if_pos rfl] at H; exact H
                  clear H
                  have H := H1
                  clear H1
                  replace H := Option.bind_eq_some_iff.mp H
                  obtain ⟨t132, A240, H⟩ := H
                  replace H : (some t132) = some r := H
                  have A24 := Aside0.mk A240
                  clear A240
                  obtain rfl := Option.some.inj H
                  go_wp2_with (first | ((with_reducible refine gate_callee (f := 40) rfl ?_); refine goesL_ (some 50) rfl rfl Try.func40 (by kernel_rfl) rfl #[] rfl (by (try simp only [List.map_toArray, List.map_cons, List.map_nil]); first | done | rfl | (simp only [List.length_drop, List.length_take]; rfl)) ?_; (with_reducible refine (precinctlaw03_wakes.calls kj16  t132 _ A24.out).mono ?_); rintro e w25 ⟨rfl, hb⟩; refine ⟨_, rfl, ?_⟩; have n0_ := Aside0.mk (Kd.R_below (by (with_reducible repeat (first | apply Kd.R_alloc | apply Kd.R_drewN | apply Kd.R_drew)); exact HO_7.out) hb); have n1_ := Aside0.mk (below_step (by repeat (first | (with_reducible first | exact HB.out | apply below_alloc | apply pw_below_drewN | apply below_drew1) | exact HB.out)) hb); clear HO_7; clear HB; have HO_7 := n0_; have HB := n1_; clear n0_ n1_; (try clear hb); (try clear hb2); (try clear hk); (try clear hi)))
                  go_ret
                  exact ⟨by first | rfl | (simp [errW_none, errW_some] <;> rfl) | (simp only [← hji4]; first | rfl | (simp [errW_none, errW_some] <;> rfl)) | (simp [*, errW_none, errW_some] <;> rfl), by repeat (first | (with_reducible first | exact HB.out | apply below_alloc | apply pw_below_drewN | apply below_drew1) | exact HB.out)⟩
                · replace c23 := Bool.eq_false_iff.mpr c23
                  subst c23
                  have H1 : (if (x7_1.length : Int) = 0 then (none) else (precinctlaw03_FrameBits.l1 kj16 ((mx 0 a1) % (x7_1.length : Int)) a2 x7_1 (⟨#[]⟩ : ByteArray) 0 0 x7_1 (x7_1.length : Int) 0)) = some r := by rw [if_neg (show ¬ (false = true) by decide)] at H; exact H
                  clear H
                  have H := H1
                  clear H1
                  obtain ⟨ji26, hji26⟩ : ∃ j_ : Int, (mx 0 a1) = j_ := ⟨_, rfl⟩
                  replace H : (if (x7_1.length : Int) = 0 then (none) else (precinctlaw03_FrameBits.l1 kj16 ((ji26) % (x7_1.length : Int)) a2 x7_1 (⟨#[]⟩ : ByteArray) 0 0 x7_1 (x7_1.length : Int) 0)) = some r := by first | (rw [hji26] at H; exact H) | (simp only [hji26] at H ⊢; exact H)
                  have hji26_ : (if 0 < a1 then a1 else 0) = ji26 := hji26
                  by_cases c27 : (x7_1.length : Int) = 0
                  · rw [if_pos c27] at H
                    exact absurd H (by simp)
                  · rw [if_neg c27] at H
                    have c27b0 : ((x7_1.length : Int) == 0) = false := beq_eq_false_iff_ne.mpr c27
                    have c27b1 : ((x7_1.length : Int) != 0) = true := bne_iff_ne.mpr c27
                    have c27b2 : ¬ (x7_1 = []) := fun h_ => c27 (by rw [h_]; rfl)
                    have H' := Aside0.mk H
                    clear H
                    obtain ⟨Ao28, co28, eo28⟩ := Kd.R_slice HO_7.out
                    subst eo28
                    go_wp2
                    go_loopg [8, 9, 10, 58] kj16 (fun kq v8 v9 v10 v58 w' => ∃ (x8_3 : ByteArray) (x9_3 : Int) (x10_3 : Int) (x58_3 : Int), v8 = .string x8_3 ∧ v9 = .int .i64 x9_3 ∧ v10 = .int .i64 x10_3 ∧ v58 = .int .i64 x58_3 ∧ Aside0 (precinctlaw03_FrameBits.l1 kq ((ji26) % (x7_1.length : Int)) a2 x7_1 x8_3 x9_3 x10_3 x7_1 (x7_1.length : Int) x58_3 = some r) ∧ Aside0 (kq ≤ kj16) ∧ Aside0 (Kd.R Kd.string 9 w' w.heap.size (fun _ => True) (.slice Ao28 x7_1.length co28) x7_1) ∧ Aside0 (Kd.R Kd.string 9 w' w.heap.size (fun _ => True) (.slice Ao28 x7_1.length co28) x7_1) ∧ Aside0 (Below w.heap.size w w'))
                    case atStart => exact ⟨((⟨#[]⟩ : ByteArray)), (0), (0), (0), (by first | rfl | (simp; done) | (simp [*]; done)), (by first | rfl | (simp; done) | (simp [*]; done)), (by first | rfl | (simp; done) | (simp [*]; done)), (by first | rfl | (simp; done) | (simp [*]; done)), H', ⟨Nat.le_refl _⟩, ⟨by (with_reducible repeat (first | apply Kd.R_alloc | apply Kd.R_drewN | apply Kd.R_drew)); exact HO_7.out⟩, ⟨by (with_reducible repeat (first | apply Kd.R_alloc | apply Kd.R_drewN | apply Kd.R_drew)); exact HO_7.out⟩, ⟨by repeat (first | (with_reducible first | exact HB.out | apply below_alloc | apply pw_below_drewN | apply below_drew1) | exact HB.out)⟩⟩
                    case round =>
                      clear H'
                      try clear c1
                      try clear p1
                      try clear q1
                      try clear hx1
                      try clear c2
                      try clear p2
                      try clear c4
                      try clear c5
                      try clear c5b0
                      try clear c5b1
                      try clear c6
                      try clear c6b0
                      try clear c6b1
                      try clear p6
                      try clear c8
                      try clear c8b0
                      try clear c9
                      try clear c9b0
                      try clear c10
                      try clear c10b0
                      try clear c12
                      try clear c12b0
                      try clear c12b1
                      try clear p12
                      try clear q12
                      try clear hx12
                      try clear c13
                      try clear c13b0
                      try clear c13b1
                      try clear c14
                      try clear c14b0
                      try clear c14b1
                      try clear c15
                      try clear c16
                      try clear c19
                      try clear c23
                      try clear c27
                      try clear c27b0
                      try clear c27b1
                      try clear c27b2
                      try clear hx127_0
                      try clear p1
                      try clear p12
                      try clear p127
                      try clear p2
                      try clear p6
                      try clear q1
                      try clear q12
                      try clear q127
                      obtain ⟨x8_3, x9_3, x10_3, x58_3, rfl, rfl, rfl, rfl, HA, HK3, HO_7, HO_56, HB⟩ := hrel
                      cases gk with
                      | zero => exact absurd HA.out (by simp [precinctlaw03_FrameBits.l1])
                      | succ k3 =>
                        have H := HA.out
                        clear HA
                        simp only [precinctlaw03_FrameBits.l1] at H
                        by_cases c29 : x58_3 < (x7_1.length : Int)
                        · rw [if_pos c29] at H
                          have c29b0 : decide (x58_3 < (x7_1.length : Int)) = true := decide_eq_true c29
                          clear c29
                          by_cases c30 : 0 ≤ x58_3
                          · rw [if_pos c30] at H
                            have c30b0 : decide (0 ≤ x58_3) = true := decide_eq_true c30
                            clear c30
                            by_cases c31 : x58_3 < (x7_1.length : Int)
                            · rw [if_pos c31] at H
                              have c31b0 : decide (x58_3 < (x7_1.length : Int)) = true := decide_eq_true c31
                              clear c31
                              replace H := Option.bind_eq_some_iff.mp H
                              obtain ⟨⟨t134, t135⟩, A320, H⟩ := H
                              replace H : (if t135 = 0 then (precinctlaw03_FrameBits.j3 k3 ((ji26) % (x7_1.length : Int)) a2 x7_1 x8_3 x9_3 x10_3 x58_3 t134 x7_1 (x7_1.length : Int) x58_3 (decide ((t134.size : Int) < 7))) else (precinctlaw03_FrameBits.j3 k3 ((ji26) % (x7_1.length : Int)) a2 x7_1 x8_3 x9_3 x10_3 x58_3 t134 x7_1 (x7_1.length : Int) x58_3 true)) = some r := H
                              have A32 := Aside0.mk A320
                              clear A320
                              have HC33 := Aside0.mk H
                              clear H
                              have p133 : 0 ≤ (x58_3 : Int) := of_decide_eq_true (by first | (with_reducible assumption) | assumption)
                              have q133 : x58_3 < (x7_1.length : Int) := of_decide_eq_true (by first | (with_reducible assumption) | assumption)
                              obtain ⟨ad133, e133, hx133_0⟩ := Kd.at_string (Kd.R_reads' HO_56.out).2.2 x58_3 p133 q133
                              cases e133
                              replace p133 := eq_true p133
                              replace q133 := eq_true q133
                              go_upto_region 18 with (first | ((with_reducible refine gate_callee (f := 38) rfl ?_); refine goesL_ (some 65) rfl rfl Try.func38 (by kernel_rfl) rfl #[.string (rdOf ByteArray.empty x7_1 x58_3)] rfl (by (try simp only [List.map_toArray, List.map_cons, List.map_nil]); first | done | rfl | (simp only [List.length_drop, List.length_take]; rfl)) ?_; (with_reducible refine (frame_Put.calls k3 (rdOf ByteArray.empty x7_1 x58_3) t134 t135 _ A32.out).mono ?_); rintro e w34 ⟨rfl, hb⟩; refine ⟨_, rfl, ?_⟩; have n0_ := Aside0.mk (Kd.R_below (by (with_reducible repeat (first | apply Kd.R_alloc | apply Kd.R_drewN | apply Kd.R_drew)); exact HO_7.out) hb); have n1_ := Aside0.mk (Kd.R_below (by (with_reducible repeat (first | apply Kd.R_alloc | apply Kd.R_drewN | apply Kd.R_drew)); exact HO_56.out) hb); have n2_ := Aside0.mk (below_step (by repeat (first | (with_reducible first | exact HB.out | apply below_alloc | apply pw_below_drewN | apply below_drew1) | exact HB.out)) hb); clear HO_7; clear HO_56; clear HB; have HO_7 := n0_; have HO_56 := n1_; have HB := n2_; clear n0_ n1_ n2_; (try clear hb); (try clear hb2); (try clear hk); (try clear hi)))
                              (try simp only [Act.put, List.setIfInBounds_toArray, List.set_cons_zero, List.set_cons_succ])
                              go_cut [74] (fun v74 wc => ∃ (kq : Nat) (x74_32 : Bool), v74 = .bool x74_32 ∧ Aside0 (precinctlaw03_FrameBits.j3 kq ((ji26) % (x7_1.length : Int)) a2 x7_1 x8_3 x9_3 x10_3 x58_3 t134 x7_1 (x7_1.length : Int) x58_3 x74_32 = some r) ∧ Aside0 (kq ≤ k3) ∧ Aside0 (Kd.R Kd.string 9 wc w.heap.size (fun _ => True) (.slice (some ad133) x7_1.length co28) x7_1) ∧ Aside0 (Kd.R Kd.string 9 wc w.heap.size (fun _ => True) (.slice (some ad133) x7_1.length co28) x7_1) ∧ Aside0 (Below w.heap.size w wc))
                              case first =>
                                have H := HC33.out
                                clear HC33
                                by_cases c35 : t135 = 0
                                · rw [if_pos c35] at H
                                  have c35b0 : (t135 == 0) = true := beq_iff_eq.mpr c35
                                  have c35b1 : (t135 != 0) = false := bne_eq_false_iff_eq.mpr c35
                                  clear c35
                                  (first | rw [c35b0] | (simp only [i64_w, i32_w]; rw [c35b0]) | skip)
                                  have H' := Aside0.mk H
                                  clear H
                                  go_wp2
                                  go_meet
                                  case rel => exact ⟨_, (decide ((t134.size : Int) < 7)), (by first | rfl | (simp; done) | (simp [*]; done)), H', ⟨by have := HK1.out; have := HJ16.out; have := HK3.out; first | omega | exact Nat.le_refl _⟩, ⟨by (with_reducible repeat (first | apply Kd.R_alloc | apply Kd.R_drewN | apply Kd.R_drew)); exact HO_7.out⟩, ⟨by (with_reducible repeat (first | apply Kd.R_alloc | apply Kd.R_drewN | apply Kd.R_drew)); exact HO_56.out⟩, ⟨by repeat (first | (with_reducible first | exact HB.out | apply below_alloc | apply pw_below_drewN | apply below_drew1) | exact HB.out)⟩⟩
                                · rw [if_neg c35] at H
                                  have c35b0 : (t135 == 0) = false := beq_eq_false_iff_ne.mpr c35
                                  have c35b1 : (t135 != 0) = true := bne_iff_ne.mpr c35
                                  (first | rw [c35b0] | (simp only [i64_w, i32_w]; rw [c35b0]) | skip)
                                  have H' := Aside0.mk H
                                  clear H
                                  go_wp2
                                  go_meet
                                  case rel => exact ⟨_, (true), (by first | rfl | (simp; done) | (simp [*]; done)), H', ⟨by have := HK1.out; have := HJ16.out; have := HK3.out; first | omega | exact Nat.le_refl _⟩, ⟨by (with_reducible repeat (first | apply Kd.R_alloc | apply Kd.R_drewN | apply Kd.R_drew)); exact HO_7.out⟩, ⟨by (with_reducible repeat (first | apply Kd.R_alloc | apply Kd.R_drewN | apply Kd.R_drew)); exact HO_56.out⟩, ⟨by repeat (first | (with_reducible first | exact HB.out | apply below_alloc | apply pw_below_drewN | apply below_drew1) | exact HB.out)⟩⟩
                              case rest =>
                                clear HC33
                                try clear c1
                                try clear p1
                                try clear q1
                                try clear hx1
                                try clear c2
                                try clear p2
                                try clear c3
                                try clear c4
                                try clear c5
                                try clear c5b0
                                try clear c5b1
                                try clear c6
                                try clear c6b0
                                try clear c6b1
                                try clear p6
                                try clear c8
                                try clear c8b0
                                try clear c9
                                try clear c9b0
                                try clear c10
                                try clear c10b0
                                try clear c12
                                try clear c12b0
                                try clear c12b1
                                try clear p12
                                try clear q12
                                try clear hx12
                                try clear c13
                                try clear c13b0
                                try clear c13b1
                                try clear p13
                                try clear q13
                                try clear hx13
                                try clear c14
                                try clear c14b0
                                try clear c14b1
                                try clear c15
                                try clear c16
                                try clear c19
                                try clear c23
                                try clear c27
                                try clear c27b0
                                try clear c27b1
                                try clear c27b2
                                try clear c29
                                try clear c29b0
                                try clear c30
                                try clear c30b0
                                try clear c31
                                try clear c31b0
                                try clear c35
                                try clear c35b0
                                try clear c35b1
                                try clear hx127_0
                                try clear hx133_0
                                try clear p1
                                try clear p12
                                try clear p127
                                try clear p133
                                try clear p2
                                try clear p6
                                try clear q1
                                try clear q12
                                try clear q127
                                try clear q133
                                obtain ⟨kq, x74_32, rfl, HA, HJ32, HO_7, HO_56, HB⟩ := hcut
                                cases kq with
                                | zero => exact absurd HA.out (by simp [precinctlaw03_FrameBits.j3])
                                | succ kj32 =>
                                  have H := HA.out
                                  clear HA
                                  simp only [precinctlaw03_FrameBits.j3] at H
                                  by_cases c36 : x74_32 = true
                                  · subst c36
                                    have H1 : (some false) = some r := by rw [if_pos rfl] at H; exact H
                                    clear H
                                    have H := H1
                                    clear H1
                                    exact absurd ((Option.some.inj H).trans hT_.out) (by decide)
                                  · replace c36 := Bool.eq_false_iff.mpr c36
                                    subst c36
                                    have H1 : (if x58_3 = ((ji26) % (x7_1.length : Int)) then (if x8_3.size + t134.size ≤ 9223372036854775807 then (precinctlaw03_FrameBits.l1 kj32 ((ji26) % (x7_1.length : Int)) a2 x7_1 (x8_3 ++ t134) (wrap64 ((x8_3.size : Int) + 2)) (wrap64 ((t134.size : Int) - 2)) x7_1 (x7_1.length : Int) (wrap64 (x58_3 + 1))) else (none)) else (if x8_3.size + t134.size ≤ 9223372036854775807 then (precinctlaw03_FrameBits.l1 kj32 ((ji26) % (x7_1.length : Int)) a2 x7_1 (x8_3 ++ t134) x9_3 x10_3 x7_1 (x7_1.length : Int) (wrap64 (x58_3 + 1))) else (none))) = some r := by rw [if_neg (show ¬ (false = true) by decide)] at H; exact H
                                    clear H
                                    have H := H1
                                    clear H1
                                    by_cases c37 : x58_3 = ((ji26) % (x7_1.length : Int))
                                    · rw [if_pos c37] at H
                                      have c37b0 : (x58_3 == ((ji26) % (x7_1.length : Int))) = true := beq_iff_eq.mpr c37
                                      have c37b1 : (x58_3 != ((ji26) % (x7_1.length : Int))) = false := bne_eq_false_iff_eq.mpr c37
                                      clear c37
                                      by_cases c38 : x8_3.size + t134.size ≤ 9223372036854775807
                                      · rw [if_pos c38] at H
                                        have c38b0 := eq_true c38
                                        have c38b1 : decide (x8_3.size + t134.size ≤ 9223372036854775807) = true := decide_eq_true c38
                                        try have c38b2 : (9223372036854775807 < x8_3.size + t134.size) = False := eq_false (Nat.not_lt.2 c38)
                                        have H' := Aside0.mk H
                                        clear H
                                        go_wp2
                                        go_roundg kj32
                                        case measure => have := HK1.out; have := HJ16.out; have := HK3.out; have := HJ32.out; omega
                                        case rel => exact ⟨(x8_3 ++ t134), (wrap64 ((x8_3.size : Int) + 2)), (wrap64 ((t134.size : Int) - 2)), (wrap64 (x58_3 + 1)), (by first | rfl | (simp; done) | (simp [*]; done) | (simp; have h_ := of_eq_true c38b0; unfold wrap64; omega)), (by first | rfl | (simp; done) | (simp [*]; done) | (simp; have h_ := of_eq_true c38b0; unfold wrap64; omega)), (by first | rfl | (simp; done) | (simp [*]; done) | (simp; have h_ := of_eq_true c38b0; unfold wrap64; omega)), (by first | rfl | (simp; done) | (simp [*]; done) | (simp; have h_ := of_eq_true c38b0; unfold wrap64; omega)), H', ⟨by have := HK1.out; have := HJ16.out; have := HK3.out; have := HJ32.out; omega⟩, ⟨by (with_reducible repeat (first | apply Kd.R_alloc | apply Kd.R_drewN | apply Kd.R_drew)); exact HO_7.out⟩, ⟨by (with_reducible repeat (first | apply Kd.R_alloc | apply Kd.R_drewN | apply Kd.R_drew)); exact HO_56.out⟩, ⟨by repeat (first | (with_reducible first | exact HB.out | apply below_alloc | apply pw_below_drewN | apply below_drew1) | exact HB.out)⟩⟩
                                      · rw [if_neg c38] at H
                                        exact absurd H (by simp)
                                    · rw [if_neg c37] at H
                                      have c37b0 : (x58_3 == ((ji26) % (x7_1.length : Int))) = false := beq_eq_false_iff_ne.mpr c37
                                      have c37b1 : (x58_3 != ((ji26) % (x7_1.length : Int))) = true := bne_iff_ne.mpr c37
                                      by_cases c39 : x8_3.size + t134.size ≤ 9223372036854775807
                                      · rw [if_pos c39] at H
                                        have c39b0 := eq_true c39
                                        have c39b1 : decide (x8_3.size + t134.size ≤ 9223372036854775807) = true := decide_eq_true c39
                                        try have c39b2 : (9223372036854775807 < x8_3.size + t134.size) = False := eq_false (Nat.not_lt.2 c39)
                                        have H' := Aside0.mk H
                                        clear H
                                        go_wp2
                                        go_roundg kj32
                                        case measure => have := HK1.out; have := HJ16.out; have := HK3.out; have := HJ32.out; omega
                                        case rel => exact ⟨(x8_3 ++ t134), (x9_3), (x10_3), (wrap64 (x58_3 + 1)), (by first | rfl | (simp; done) | (simp [*]; done)), (by first | rfl | (simp; done) | (simp [*]; done)), (by first | rfl | (simp; done) | (simp [*]; done)), (by first | rfl | (simp; done) | (simp [*]; done)), H', ⟨by have := HK1.out; have := HJ16.out; have := HK3.out; have := HJ32.out; omega⟩, ⟨by (with_reducible repeat (first | apply Kd.R_alloc | apply Kd.R_drewN | apply Kd.R_drew)); exact HO_7.out⟩, ⟨by (with_reducible repeat (first | apply Kd.R_alloc | apply Kd.R_drewN | apply Kd.R_drew)); exact HO_56.out⟩, ⟨by repeat (first | (with_reducible first | exact HB.out | apply below_alloc | apply pw_below_drewN | apply below_drew1) | exact HB.out)⟩⟩
                                      · rw [if_neg c39] at H
                                        exact absurd H (by simp)
                            · rw [if_neg c31] at H
                              exact absurd H (by simp)
                          · rw [if_neg c30] at H
                            exact absurd H (by simp)
                        · rw [if_neg c29] at H
                          have c29b0 : decide (x58_3 < (x7_1.length : Int)) = false := decide_eq_false c29
                          clear c29
                          obtain ⟨ji40, hji40⟩ : ∃ j_ : Int, (mx 0 a2) = j_ := ⟨_, rfl⟩
                          replace H : (if (wrap64 (8 * x10_3)) = 0 then (none) else (Words.tailF k3 x8_3 x9_3 ((ji40) % (wrap64 (8 * x10_3))) x7_1 ((ji26) % (x7_1.length : Int)))) = some r := by first | (rw [hji40] at H; exact H) | (simp only [hji40] at H ⊢; exact H)
                          have hji40_ : (if 0 < a2 then a2 else 0) = ji40 := hji40
                          by_cases c41 : (wrap64 (8 * x10_3)) = 0
                          · rw [if_pos c41] at H
                            exact absurd H (by simp)
                          · rw [if_neg c41] at H
                            have c41b0 : ((wrap64 (8 * x10_3)) == 0) = false := beq_eq_false_iff_ne.mpr c41
                            have c41b1 : ((wrap64 (8 * x10_3)) != 0) = true := bne_iff_ne.mpr c41
                            obtain ⟨n, q, f, i, hbit, rfl, hk, hq, hf, hp, hi, hs8, hb7, rfl, hA⟩ := Words.tailF_some H
                            clear H
                            rw [hk]
                            have hbit2 : Int.tmod ji40 (wrap64 (8 * x10_3)) = (n : Int) := Words.tmod_of (Words.mx_nn hji40) hbit
                            have kb := fun W => print_bytes (P := Try.prog) 9 59 5 Try.underlying9 Try.underlying59 Try.underlying5 x8_3 W
                            go_upto_region 26 with fail
                            have HW0 : Below wr.heap.size wr (Lib.bytesWorld wr 5 x8_3) := bytes_below (Below.refl _ _) (Nat.le_refl _) 5 x8_3
                            have hr := bytes_reads wr 5 x8_3 (Words.small_size hs8)
                            have hcell := Words.conv_cell wr 5 x8_3 (f + q) hp
                            have hfz := Words.conv_frozen wr 5 x8_3 (f + q) hp
                            generalize hWe : Lib.bytesWorld wr 5 x8_3 = W at HW0 hr hcell hfz ⊢
                            clear hWe
                            have hq1 := Words.tdiv8 hq
                            have hq2 := Words.tmod8 n
                            have hpw := Words.add64 hp hs8
                            have hqw := Words.wi_lt hp hs8
                            have hsb := Words.sub64 hp hs8 hf
                            have hi0 : (0 : Int) ≤ ((f + q : Nat) : Int) := Int.natCast_nonneg _
                            have hi1 : ((f + q : Nat) : Int) < (x8_3.size : Int) := Int.ofNat_lt.2 hp
                            have hA := Aside0.mk hA
                            clear hq
                            generalize f - 2 = g at hsb hA
                            generalize f + q = p at hp hcell hfz hpw hi0 hi1 hA
                            have hn8 : n % 8 < 8 := Nat.mod_lt _ (by decide)
                            generalize n % 8 = e at hq2 hA hn8
                            have he0 : (0 : Int) ≤ (e : Int) := Int.natCast_nonneg _
                            have hsh := Words.shl8 hn8
                            have hew := Words.wi_lt8 hn8
                            have hcell1 : W.drew.cell? ⟨wr.heap.size, p, none⟩ = some (.int .u8 (bt x8_3 (p : Int))) := hcell
                            have hfz1 : W.drew.frozen? ⟨wr.heap.size, p, none⟩ = false := hfz
                            have hr1 := Aside0.mk (hr.below (below_drew1 (Below.refl W.heap.size W)))
                            have HW1 := Aside0.mk (below_drew1 HW0)
                            clear hcell hfz hr HW0 kb
                            go_still_tail 12, (by kernel_rfl)
                            change wpList _ _ _ _ _ W.drew
                            generalize W.drew = W1 at hcell1 hfz1 hr1 HW1 ⊢
                            go_upto_region 27 with fail
                            rw [Words.pow8_256 hn8]
                            have hr2 := Words.reads_set hr1.out p hp (bits .xor .u8 (bt x8_3 (p : Int)) (2 ^ e)) hcell1
                            have HW2 : Below wr.heap.size wr (W1.setCell ⟨wr.heap.size, p, none⟩ (.int .u8 (bits .xor .u8 (bt x8_3 (p : Int)) (2 ^ e)))) := HW1.out.setCell (Nat.le_refl _) _
                            clear hr1 HW1
                            generalize W1.setCell ⟨wr.heap.size, p, none⟩ (.int .u8 (bits .xor .u8 (bt x8_3 (p : Int)) (2 ^ e))) = W2 at hr2 HW2 ⊢
                            have HW2 := Aside0.mk HW2
                            have ks0 := string_of_reads (P := Try.prog) Try.underlying59 Try.underlying5 Try.underlying9 hr2 (c := grownCap wr x8_3.size 0 5)
                            generalize strOfNums ((bytesOf x8_3).set p (bits .xor .u8 (bt x8_3 (p : Int)) (2 ^ e))) = c at ks0 hA
                            clear hr2 hcell1 hfz1 hpw hi0 hi1 hq1 hq2 hsh hew hqw he0 hbit2 hbit
                            have hgl := Aside0.mk (show (x7_1.take i).length = i by rw [List.length_take]; omega)
                            have hiL := Aside0.mk hi
                            generalize hgot : x7_1.take i = got at hA hgl
                            have hgot := Aside0.mk hgot
                            clear hi hp
                            go_upto_region 28 with (first | (go_at_call 43; (with_reducible refine (frame_All.calls k3 c got _ _ hA.out).mono ?_); rintro e w30 ⟨v0_, rfl, ho0, hb⟩; have HWf := Aside0.mk (below_step HW2.out hb); obtain ⟨Ag, cg, rfl, hG⟩ := Words.got_slice hgl.out ho0; have HOG := Aside0.mk hG; have HO7 := Aside0.mk (Kd.R_below HO_7.out HWf.out); clear ho0 hb hG HW2 ks0))
                            go_wp2
                            repeat (go_quiet (fail); try go_wp2)
                            go_loopg [125] (i + 1) (fun kq v125 w' => ∃ (x : Int), v125 = .int .i64 x ∧ Aside0 (0 ≤ x ∧ x ≤ (i : Int) ∧ x + (kq : Int) = (i : Int) + 1) ∧ Aside0 (Below wr.heap.size wr w') ∧ Aside0 (Kd.R Kd.string 9 w' W2.heap.size (fun _ => True) (.slice Ag i cg) got) ∧ Aside0 (Kd.R Kd.string 9 w' w.heap.size (fun _ => True) (.slice Ao28 x7_1.length co28) x7_1))
                            case atStart => exact ⟨0, (by first | rfl | (simp; done)), ⟨Int.le_refl _, Int.natCast_nonneg _, by omega⟩, HWf, HOG, HO7⟩
                            case round =>
                              clear HWf HOG HO7
                              obtain ⟨x, rfl, HJ, HWf, HOG, HO7⟩ := hrel
                              cases gk with
                              | zero => exact absurd HJ.out (by omega)
                              | succ k2 =>
                                by_cases cj : x < (i : Int)
                                · have cjb : decide (x < (i : Int)) = true := decide_eq_true cj
                                  have jb0 : decide (0 ≤ x) = true := decide_eq_true HJ.out.1
                                  have p2 : x < (x7_1.length : Int) := Int.lt_trans cj (Int.ofNat_lt.2 hiL.out)
                                  have jb1 : decide (x < (x7_1.length : Int)) = true := decide_eq_true p2
                                  have p0 : 0 ≤ x := HJ.out.1
                                  have p1 : x < (got.length : Int) := by rw [hgl.out]; exact cj
                                  obtain ⟨ad0, e0_, hx0⟩ := Kd.at_string (Kd.R_reads' HOG.out).2.2 x p0 p1
                                  cases e0_
                                  obtain ⟨ad1, e1_, hx1⟩ := Kd.at_string (Kd.R_reads' HO7.out).2.2 x p0 p2
                                  cases e1_
                                  have hsame : rdOf ByteArray.empty got x = rdOf ByteArray.empty x7_1 x := by
                                    obtain ⟨j, rfl⟩ := Int.eq_ofNat_of_zero_le p0
                                    rw [← hgot.out]; exact Words.rd_take x7_1 i j (Int.ofNat_lt.1 cj)
                                  rw [hsame] at hx0
                                  clear hsame p1
                                  have hm : Aside0 (wrap64 (x + 1) = x + 1) := ⟨Plain.w64 (by omega) (by have h3_ := hiL.out; omega)⟩
                                  replace p0 := eq_true p0
                                  replace p2 := eq_true p2
                                  replace cj := eq_true cj
                                  go_wp2
                                  repeat (go_quiet (fail); try go_wp2)
                                  trace_state
                                  go_roundg k2
                                  case measure => have := HJ.out; omega
                                  case rel => exact ⟨wrap64 (x + 1), (by first | rfl | (simp; done) | (simp [*]; done)), ⟨by rw [hm.out]; have h_ := HJ.out; have h2_ := of_eq_true cj; omega⟩, ⟨by repeat (first | (with_reducible first | exact HWf.out | apply below_alloc | apply pw_below_drewN | apply below_drew1) | exact HWf.out)⟩, ⟨by (with_reducible repeat (first | apply Kd.R_alloc | apply Kd.R_drewN | apply Kd.R_drew)); exact HOG.out⟩, ⟨by (with_reducible repeat (first | apply Kd.R_alloc | apply Kd.R_drewN | apply Kd.R_drew)); exact HO7.out⟩⟩
                                · have cjb : decide (x < (i : Int)) = false := decide_eq_false cj
                                  go_wp2
                                  repeat (go_quiet (fail); try go_wp2)
                                  go_ret
                                  exact ⟨by first | rfl | (simp [errW_none, errW_some] <;> rfl) | (simp [*, errW_none, errW_some] <;> rfl), below_step HB.out (by repeat (first | (with_reducible first | exact HWf.out | apply below_alloc | apply pw_below_drewN | apply below_drew1) | exact HWf.out))⟩
    · rw [if_neg c6] at H
      exact absurd H (by simp)
  · rw [if_neg c5] at H
    exact absurd H (by simp)

end Go.Proofs.Ytfccgiccllnkkaa.PY
