-- printed by a program of this session out of the translation; see NOTES.md
import Derived.Test.YtfccgiccllnkkaaPXx0
import Derived.Test.YtfccgiccllnkkaaPXx5
import Derived.Test.YtfccgiccllnkkaaPXx6
namespace Go.Proofs.Ytfccgiccllnkkaa.PX
open Go.RowKit Go.Proofs.YtfccgiccllnkkaaW.PrintWords Go.Proofs.YtfccgiccllnkkaaW.PrintLast Go.Proofs.YtfccgiccllnkkaaW.PrintMore
attribute [local go_sem] max2_int min2_int max_two min_two max_three min_three max_four min_four   -- for this text's walks alone
set_option linter.unusedVariables false
set_option linter.unusedSimpArgs false

/-! ### precinctlaw03_FrameBack: function 15 -/
mutual
def precinctlaw03_FrameBack.l0 : Nat → Int → ByteArray → List ByteArray → List ByteArray → Int → Int → Option (Bool)
  | 0, _, _, _, _, _, _ => none
  | k + 1, x1, x5, x6, x18, x19, x20 => if x20 < x19 then (if 0 ≤ x20 then (if x20 < (x18.length : Int) then ((frame_Put.f k (rdOf ByteArray.empty x18 x20)).bind fun bt254 => (if (rdOf ByteArray.empty x18 x20).toList = ([] : List UInt8) then (precinctlaw03_FrameBack.j1 k x1 x5 x6 (rdOf ByteArray.empty x18 x20) bt254.1 bt254.2 x18 x19 x20 ((bt254.2 == 0) != false)) else (precinctlaw03_FrameBack.j1 k x1 x5 x6 (rdOf ByteArray.empty x18 x20) bt254.1 bt254.2 x18 x19 x20 ((bt254.2 == 0) != (decide (((rdOf ByteArray.empty x18 x20).size : Int) ≤ 4096)))))) else (none)) else (none)) else (if 0 ≤ ((mx 0 x1) % 9) then (if ((mx 0 x1) % 9 : Int).toNat ≤ 281474976710656 then ((some (List.replicate ((mx 0 x1) % 9 : Int).toNat 0 : List Int)).bind fun y259 => (if x5.size + (strOfNums y259).size ≤ 9223372036854775807 then ((frame_All.f k (x5 ++ (strOfNums y259))).bind fun bt262 => ((precinctlaw03_wakes.f k).bind fun t266 => (if t266 = true then (if (bt262.1.length : Int) = (x6.length : Int) then (precinctlaw03_FrameBack.j2 k x6 bt262.1 (bt262.2 != (x5.size : Int))) else (precinctlaw03_FrameBack.j2 k x6 bt262.1 true)) else (precinctlaw03_FrameBack.j2 k x6 bt262.1 true)))) else (none))) else (none)) else (none))
def precinctlaw03_FrameBack.j1 : Nat → Int → ByteArray → List ByteArray → ByteArray → ByteArray → Int → List ByteArray → Int → Int → Bool → Option (Bool)
  | 0, _, _, _, _, _, _, _, _, _, _ => none
  | k + 1, x1, x5, x6, x8, x9, x10, x18, x19, x20, x38 => if x38 = true then (some false) else (if x10 = 0 then (if x6.length < 8796093022208 then (if x5.size + x9.size ≤ 9223372036854775807 then (precinctlaw03_FrameBack.l0 k x1 (x5 ++ x9) (x6 ++ [x8]) x18 x19 (wrap64 (x20 + 1))) else (none)) else (none)) else (if x5.size + x9.size ≤ 9223372036854775807 then (precinctlaw03_FrameBack.l0 k x1 (x5 ++ x9) x6 x18 x19 (wrap64 (x20 + 1))) else (none)))
def precinctlaw03_FrameBack.j2 : Nat → List ByteArray → List ByteArray → Bool → Option (Bool)
  | 0, _, _, _ => none
  | k + 1, x6, x11, x74 => if x74 = true then (some false) else (precinctlaw03_FrameBack.l1 k x6 x11 (x11.length : Int) 0)
def precinctlaw03_FrameBack.l1 : Nat → List ByteArray → List ByteArray → Int → Int → Option (Bool)
  | 0, _, _, _, _ => none
  | k + 1, x6, x11, x76, x77 => if x77 < x76 then (if 0 ≤ x77 then (if x77 < (x11.length : Int) then (if x77 < (x6.length : Int) then (if (rdOf ByteArray.empty x11 x77).toList = (rdOf ByteArray.empty x6 x77).toList then (precinctlaw03_FrameBack.l1 k x6 x11 x76 (wrap64 (x77 + 1))) else (some false)) else (none)) else (none)) else (none)) else (some true)
end
def precinctlaw03_FrameBack.f (k : Nat) (l0 : List ByteArray) (a1 : Int) : Option (Bool) := if 0 ≤ (mn (l0.length : Int) 20) then (if (mn (l0.length : Int) 20) ≤ (l0.length : Int) then (precinctlaw03_FrameBack.l0 k a1 (⟨#[]⟩ : ByteArray) ([] : List ByteArray) (l0.take ((mn (l0.length : Int) 20) : Int).toNat) ((l0.take ((mn (l0.length : Int) 20) : Int).toNat).length : Int) 0) else (none)) else (none)
theorem precinctlaw03_FrameBack.mono_l : ∀ k, (∀ y0 y1 y2 y3 y4 y5, LeO (precinctlaw03_FrameBack.l0 k y0 y1 y2 y3 y4 y5) (precinctlaw03_FrameBack.l0 (k + 1) y0 y1 y2 y3 y4 y5)) ∧ (∀ y0 y1 y2 y3 y4 y5 y6 y7 y8 y9, LeO (precinctlaw03_FrameBack.j1 k y0 y1 y2 y3 y4 y5 y6 y7 y8 y9) (precinctlaw03_FrameBack.j1 (k + 1) y0 y1 y2 y3 y4 y5 y6 y7 y8 y9)) ∧ (∀ y0 y1 y2, LeO (precinctlaw03_FrameBack.j2 k y0 y1 y2) (precinctlaw03_FrameBack.j2 (k + 1) y0 y1 y2)) ∧ (∀ y0 y1 y2 y3, LeO (precinctlaw03_FrameBack.l1 k y0 y1 y2 y3) (precinctlaw03_FrameBack.l1 (k + 1) y0 y1 y2 y3))
  | 0 => ⟨fun _ _ _ _ _ _ r h => by simp [precinctlaw03_FrameBack.l0] at h, fun _ _ _ _ _ _ _ _ _ _ r h => by simp [precinctlaw03_FrameBack.j1] at h, fun _ _ _ r h => by simp [precinctlaw03_FrameBack.j2] at h, fun _ _ _ _ r h => by simp [precinctlaw03_FrameBack.l1] at h⟩
  | k + 1 => by
    obtain ⟨ih0, ih1, ih2, ih3⟩ := precinctlaw03_FrameBack.mono_l k
    refine ⟨?_, ?_, ?_, ?_⟩
    · intro y0 y1 y2 y3 y4 y5
      unfold precinctlaw03_FrameBack.l0
      repeat' first
      | (with_reducible exact ih0 _ _ _ _ _ _)
      | (with_reducible exact ih1 _ _ _ _ _ _ _ _ _ _)
      | (with_reducible exact ih2 _ _ _)
      | (with_reducible exact ih3 _ _ _ _)
      | (with_reducible exact frame_All.mono _ _)
      | (with_reducible exact frame_Put.mono _ _)
      | (with_reducible exact precinctlaw03_wakes.mono _)
      | (with_reducible exact LeO.refl _)
      | (with_reducible exact LeO.none _)
      | (with_reducible refine LeO.ite ?_ ?_)
      | (with_reducible refine LeO.bind ?_ (fun _ => ?_))
      | exact ih0 _ _ _ _ _ _
      | exact ih1 _ _ _ _ _ _ _ _ _ _
      | exact ih2 _ _ _
      | exact ih3 _ _ _ _
      | exact frame_All.mono _ _
      | exact frame_Put.mono _ _
      | exact precinctlaw03_wakes.mono _
      | exact LeO.none _
      | refine LeO.ite ?_ ?_
      | refine LeO.bind ?_ (fun _ => ?_)
    · intro y0 y1 y2 y3 y4 y5 y6 y7 y8 y9
      unfold precinctlaw03_FrameBack.j1
      repeat' first
      | (with_reducible exact ih0 _ _ _ _ _ _)
      | (with_reducible exact ih1 _ _ _ _ _ _ _ _ _ _)
      | (with_reducible exact ih2 _ _ _)
      | (with_reducible exact ih3 _ _ _ _)
      | (with_reducible exact frame_All.mono _ _)
      | (with_reducible exact frame_Put.mono _ _)
      | (with_reducible exact precinctlaw03_wakes.mono _)
      | (with_reducible exact LeO.refl _)
      | (with_reducible exact LeO.none _)
      | (with_reducible refine LeO.ite ?_ ?_)
      | (with_reducible refine LeO.bind ?_ (fun _ => ?_))
      | exact ih0 _ _ _ _ _ _
      | exact ih1 _ _ _ _ _ _ _ _ _ _
      | exact ih2 _ _ _
      | exact ih3 _ _ _ _
      | exact frame_All.mono _ _
      | exact frame_Put.mono _ _
      | exact precinctlaw03_wakes.mono _
      | exact LeO.none _
      | refine LeO.ite ?_ ?_
      | refine LeO.bind ?_ (fun _ => ?_)
    · intro y0 y1 y2
      unfold precinctlaw03_FrameBack.j2
      repeat' first
      | (with_reducible exact ih0 _ _ _ _ _ _)
      | (with_reducible exact ih1 _ _ _ _ _ _ _ _ _ _)
      | (with_reducible exact ih2 _ _ _)
      | (with_reducible exact ih3 _ _ _ _)
      | (with_reducible exact frame_All.mono _ _)
      | (with_reducible exact frame_Put.mono _ _)
      | (with_reducible exact precinctlaw03_wakes.mono _)
      | (with_reducible exact LeO.refl _)
      | (with_reducible exact LeO.none _)
      | (with_reducible refine LeO.ite ?_ ?_)
      | (with_reducible refine LeO.bind ?_ (fun _ => ?_))
      | exact ih0 _ _ _ _ _ _
      | exact ih1 _ _ _ _ _ _ _ _ _ _
      | exact ih2 _ _ _
      | exact ih3 _ _ _ _
      | exact frame_All.mono _ _
      | exact frame_Put.mono _ _
      | exact precinctlaw03_wakes.mono _
      | exact LeO.none _
      | refine LeO.ite ?_ ?_
      | refine LeO.bind ?_ (fun _ => ?_)
    · intro y0 y1 y2 y3
      unfold precinctlaw03_FrameBack.l1
      repeat' first
      | (with_reducible exact ih0 _ _ _ _ _ _)
      | (with_reducible exact ih1 _ _ _ _ _ _ _ _ _ _)
      | (with_reducible exact ih2 _ _ _)
      | (with_reducible exact ih3 _ _ _ _)
      | (with_reducible exact frame_All.mono _ _)
      | (with_reducible exact frame_Put.mono _ _)
      | (with_reducible exact precinctlaw03_wakes.mono _)
      | (with_reducible exact LeO.refl _)
      | (with_reducible exact LeO.none _)
      | (with_reducible refine LeO.ite ?_ ?_)
      | (with_reducible refine LeO.bind ?_ (fun _ => ?_))
      | exact ih0 _ _ _ _ _ _
      | exact ih1 _ _ _ _ _ _ _ _ _ _
      | exact ih2 _ _ _
      | exact ih3 _ _ _ _
      | exact frame_All.mono _ _
      | exact frame_Put.mono _ _
      | exact precinctlaw03_wakes.mono _
      | exact LeO.none _
      | refine LeO.ite ?_ ?_
      | refine LeO.bind ?_ (fun _ => ?_)
theorem precinctlaw03_FrameBack.mono : ∀ a0 a1 k, LeO (precinctlaw03_FrameBack.f k a0 a1) (precinctlaw03_FrameBack.f (k + 1) a0 a1) := by
  intro a0 a1 k
  obtain ⟨ih0, ih1, ih2, ih3⟩ := precinctlaw03_FrameBack.mono_l k
  unfold precinctlaw03_FrameBack.f
  repeat' first
      | (with_reducible exact ih0 _ _ _ _ _ _)
      | (with_reducible exact ih1 _ _ _ _ _ _ _ _ _ _)
      | (with_reducible exact ih2 _ _ _)
      | (with_reducible exact ih3 _ _ _ _)
      | (with_reducible exact frame_All.mono _ _)
      | (with_reducible exact frame_Put.mono _ _)
      | (with_reducible exact precinctlaw03_wakes.mono _)
      | (with_reducible exact LeO.refl _)
      | (with_reducible exact LeO.none _)
      | (with_reducible refine LeO.ite ?_ ?_)
      | (with_reducible refine LeO.bind ?_ (fun _ => ?_))
      | exact ih0 _ _ _ _ _ _
      | exact ih1 _ _ _ _ _ _ _ _ _ _
      | exact ih2 _ _ _
      | exact ih3 _ _ _ _
      | exact frame_All.mono _ _
      | exact frame_Put.mono _ _
      | exact precinctlaw03_wakes.mono _
      | exact LeO.none _
      | refine LeO.ite ?_ ?_
      | refine LeO.bind ?_ (fun _ => ?_)
set_option maxHeartbeats 8000000 in
set_option maxRecDepth 100000 in
theorem precinctlaw03_FrameBack.calls (k : Nat) (A0 : Option Addr) (c0 : Nat) (l0 : List ByteArray) (a1 : Int) (r : Bool) (w : World) (hr0 : Kd.C Kd.string w A0 l0.length l0) (hc0 : l0.length ≤ c0) (hT_ : Aside0 (r = true)) (h : precinctlaw03_FrameBack.f k l0 a1 = some r) :
    Calls Try.prog 15 #[.slice A0 l0.length c0, .int .i64 a1] w fun e w' => e = .returned (.bool r) ∧ Below w.heap.size w w' := by
  have HR0 := Aside0.mk hr0
  have HC0 := Aside0.mk hc0
  clear hr0 hc0
  have HB := Aside0.mk (Below.refl w.heap.size w)
  have H : (if 0 ≤ (mn (l0.length : Int) 20) then (if (mn (l0.length : Int) 20) ≤ (l0.length : Int) then (precinctlaw03_FrameBack.l0 k a1 (⟨#[]⟩ : ByteArray) ([] : List ByteArray) (l0.take ((mn (l0.length : Int) 20) : Int).toNat) ((l0.take ((mn (l0.length : Int) 20) : Int).toNat).length : Int) 0) else (none)) else (none)) = some r := h
  clear h
  obtain ⟨ji3, hji3⟩ : ∃ j_ : Int, (mn (l0.length : Int) 20) = j_ := ⟨_, rfl⟩
  replace H : (if 0 ≤ (ji3) then (if (ji3) ≤ (l0.length : Int) then (precinctlaw03_FrameBack.l0 k a1 (⟨#[]⟩ : ByteArray) ([] : List ByteArray) (l0.take ((ji3) : Int).toNat) ((l0.take ((ji3) : Int).toNat).length : Int) 0) else (none)) else (none)) = some r := by first | (rw [hji3] at H; exact H) | (simp only [hji3] at H ⊢; exact H)
  (try (have hji3h : ji3 ≤ 20 := by (rw [← hji3]; unfold mn; (repeat' split) <;> omega)))
  (try (have hji3g : ji3 ≤ 64 := by omega))
  (try (have hji3l : 0 ≤ ji3 := by (rw [← hji3]; unfold mn; (repeat' split) <;> omega)))
  (try (have hji3m : 0 ≤ ji3 := by omega))
  have hji3_ : (if 20 < (l0.length : Int) then 20 else (l0.length : Int)) = ji3 := hji3
  by_cases c4 : 0 ≤ (ji3)
  · rw [if_pos c4] at H
    have c4b0 := eq_true c4
    have c4b1 : decide (0 ≤ (ji3)) = true := decide_eq_true c4
    clear c4
    by_cases c5 : (ji3) ≤ (l0.length : Int)
    · rw [if_pos c5] at H
      have c5b0 := eq_true c5
      have c5b1 : decide ((ji3) ≤ (l0.length : Int)) = true := decide_eq_true c5
      clear c5
      have H' := Aside0.mk H
      clear H
      obtain ⟨i06, hi06, _, hsz6, _⟩ := info_parts info9
      obtain ⟨hcut6, hA6, hC6⟩ := print_take_of (P := Try.prog) Value.string (⟨#[]⟩ : ByteArray) 53 9 .i64 Try.underlying53 hi06 hsz6 A0 c0 l0 (ji3) (of_decide_eq_true (by first | (with_reducible assumption) | assumption)) (of_decide_eq_true (by first | (with_reducible assumption) | assumption)) HC0.out
      have HR252 := Aside0.mk (Kd.C_of_reads (h1 := fun _ => rfl) (hA6 _ (Kd.reads_of_C HR0.out)))
      have HC252 := Aside0.mk hC6
      clear hA6 hC6 hi06 hsz6
      go_enter Try.func15, Try.ntmps15
      go_wp2
      repeat (go_quiet (fail); try go_wp2)
      go_loopg [5, 6, 20] k (fun kq v5 v6 v20 w' => ∃ (x5_1 : ByteArray) (x6_1 : List ByteArray) (x20_1 : Int), v5 = .string x5_1 ∧ v20 = .int .i64 x20_1 ∧ Aside0 (precinctlaw03_FrameBack.l0 kq a1 x5_1 x6_1 (l0.take ((ji3) : Int).toNat) ((l0.take ((ji3) : Int).toNat).length : Int) x20_1 = some r) ∧ Aside0 (kq ≤ k) ∧ Aside0 (Kd.R Kd.string 9 w' w.heap.size (fun _ => True) v6 x6_1) ∧ Aside0 (Below w.heap.size w w'))
      case atStart => exact ⟨((⟨#[]⟩ : ByteArray)), (([] : List ByteArray)), (0), (by first | rfl | (simp; done) | (simp [*]; done)), (by first | rfl | (simp; done) | (simp [*]; done)), H', ⟨Nat.le_refl _⟩, ⟨by first | exact Kd.R_nil _ _ _ _ _ | exact Kd.N_nil _ _ _ _ _ | exact Kd.V_nil _ _ _ _ _ | exact Kd.Q_nil _ _ _ _ _ | exact Kd.S_nil _ _ _ _ _⟩, ⟨by repeat (first | (with_reducible first | exact HB.out | apply below_alloc | apply pw_below_drewN | apply below_drew1) | exact HB.out)⟩⟩
      case round =>
        clear H'
        try clear c1
        try clear p2
        try clear c4
        try clear c4b0
        try clear c4b1
        try clear c5
        try clear c5b0
        try clear c5b1
        obtain ⟨x5_1, x6_1, x20_1, rfl, rfl, HA, HK1, HO_6, HB⟩ := hrel
        cases gk with
        | zero => exact absurd HA.out (by simp [precinctlaw03_FrameBack.l0])
        | succ k1 =>
          have H := HA.out
          clear HA
          simp only [precinctlaw03_FrameBack.l0] at H
          by_cases c7 : x20_1 < ((l0.take ((ji3) : Int).toNat).length : Int)
          · rw [if_pos c7] at H
            have c7b0 : decide (x20_1 < ((l0.take ((ji3) : Int).toNat).length : Int)) = true := decide_eq_true c7
            (try have c7b0y : decide (x20_1 < max ji3 0) = true := by (have h_ := of_decide_eq_true c7b0; rw [List.length_take] at h_; exact decide_eq_true (by (have h2_ := hji3_; split at h2_ <;> omega))))
            (try have c7b0y : decide (x20_1 < max ji3 0) = true := by (have h_ := of_decide_eq_true c7b0; rw [List.length_take] at h_; exact decide_eq_true (by (have h2_ := hji3_; split at h2_ <;> omega))))
            clear c7
            by_cases c8 : 0 ≤ x20_1
            · rw [if_pos c8] at H
              have c8b0 : decide (0 ≤ x20_1) = true := decide_eq_true c8
              clear c8
              by_cases c9 : x20_1 < ((l0.take ((ji3) : Int).toNat).length : Int)
              · rw [if_pos c9] at H
                have c9b0 : decide (x20_1 < ((l0.take ((ji3) : Int).toNat).length : Int)) = true := decide_eq_true c9
                (try have c9b0y : decide (x20_1 < max ji3 0) = true := by (have h_ := of_decide_eq_true c9b0; rw [List.length_take] at h_; exact decide_eq_true (by (have h2_ := hji3_; split at h2_ <;> omega))))
                (try have c9b0y : decide (x20_1 < max ji3 0) = true := by (have h_ := of_decide_eq_true c9b0; rw [List.length_take] at h_; exact decide_eq_true (by (have h2_ := hji3_; split at h2_ <;> omega))))
                clear c9
                replace H := Option.bind_eq_some_iff.mp H
                obtain ⟨⟨t254, t255⟩, A100, H⟩ := H
                replace H : (if (rdOf ByteArray.empty (l0.take ((ji3) : Int).toNat) x20_1).toList = ([] : List UInt8) then (precinctlaw03_FrameBack.j1 k1 a1 x5_1 x6_1 (rdOf ByteArray.empty (l0.take ((ji3) : Int).toNat) x20_1) t254 t255 (l0.take ((ji3) : Int).toNat) ((l0.take ((ji3) : Int).toNat).length : Int) x20_1 ((t255 == 0) != false)) else (precinctlaw03_FrameBack.j1 k1 a1 x5_1 x6_1 (rdOf ByteArray.empty (l0.take ((ji3) : Int).toNat) x20_1) t254 t255 (l0.take ((ji3) : Int).toNat) ((l0.take ((ji3) : Int).toNat).length : Int) x20_1 ((t255 == 0) != (decide (((rdOf ByteArray.empty (l0.take ((ji3) : Int).toNat) x20_1).size : Int) ≤ 4096))))) = some r := H
                have A10 := Aside0.mk A100
                clear A100
                have HC11 := Aside0.mk H
                clear H
                have p253 : 0 ≤ (x20_1 : Int) := of_decide_eq_true (by first | (with_reducible assumption) | assumption)
                have q253 : x20_1 < ((l0.take ((ji3) : Int).toNat).length : Int) := of_decide_eq_true (by first | (with_reducible assumption) | assumption)
                obtain ⟨ad253, e253, hx253_0⟩ := Kd.at_string HR252.out x20_1 p253 q253
                cases e253
                replace hx253_0 := (HB.out.cell (World.block_lt_of_cell? w _ hx253_0)).trans hx253_0
                replace p253 := eq_true p253
                replace q253 := eq_true q253
                (try have q253y : (x20_1 < max ji3 0) = True := eq_true (of_decide_eq_true (by assumption)))
                (try have q253y : (x20_1 < max ji3 0) = True := eq_true (of_decide_eq_true (by assumption)))
                go_upto_region 7 with (first | (go_at_call 38; (with_reducible refine (frame_Put.calls k1 (rdOf ByteArray.empty (l0.take ((ji3) : Int).toNat) x20_1) t254 t255 _ A10.out).mono ?_); rintro e w12 ⟨rfl, hb⟩; have n0_ := Aside0.mk (Kd.R_below (by (with_reducible repeat (first | apply Kd.R_alloc | apply Kd.R_drewN | apply Kd.R_drew)); exact HO_6.out) hb); have n1_ := Aside0.mk (below_step (by repeat (first | (with_reducible first | exact HB.out | apply below_alloc | apply pw_below_drewN | apply below_drew1) | exact HB.out)) hb); clear HO_6; clear HB; have HO_6 := n0_; have HB := n1_; clear n0_ n1_; (try clear hb); (try clear hb2); (try clear hk); (try clear hi)))
                repeat (go_quiet (first | (go_at_call 38; (with_reducible refine (frame_Put.calls k1 (rdOf ByteArray.empty (l0.take ((ji3) : Int).toNat) x20_1) t254 t255 _ A10.out).mono ?_); rintro e w12 ⟨rfl, hb⟩; have n0_ := Aside0.mk (Kd.R_below (by (with_reducible repeat (first | apply Kd.R_alloc | apply Kd.R_drewN | apply Kd.R_drew)); exact HO_6.out) hb); have n1_ := Aside0.mk (below_step (by repeat (first | (with_reducible first | exact HB.out | apply below_alloc | apply pw_below_drewN | apply below_drew1) | exact HB.out)) hb); clear HO_6; clear HB; have HO_6 := n0_; have HB := n1_; clear n0_ n1_; (try clear hb); (try clear hb2); (try clear hk); (try clear hi))); go_upto_region 7 with (first | (go_at_call 38; (with_reducible refine (frame_Put.calls k1 (rdOf ByteArray.empty (l0.take ((ji3) : Int).toNat) x20_1) t254 t255 _ A10.out).mono ?_); rintro e w12 ⟨rfl, hb⟩; have n0_ := Aside0.mk (Kd.R_below (by (with_reducible repeat (first | apply Kd.R_alloc | apply Kd.R_drewN | apply Kd.R_drew)); exact HO_6.out) hb); have n1_ := Aside0.mk (below_step (by repeat (first | (with_reducible first | exact HB.out | apply below_alloc | apply pw_below_drewN | apply below_drew1) | exact HB.out)) hb); clear HO_6; clear HB; have HO_6 := n0_; have HB := n1_; clear n0_ n1_; (try clear hb); (try clear hb2); (try clear hk); (try clear hi))))
                (try simp only [Act.put, List.setIfInBounds_toArray, List.set_cons_zero, List.set_cons_succ])
                go_cut [38] (fun v38 wc => ∃ (kq : Nat) (x38_10 : Bool), v38 = .bool x38_10 ∧ Aside0 (precinctlaw03_FrameBack.j1 kq a1 x5_1 x6_1 (rdOf ByteArray.empty (l0.take ((ji3) : Int).toNat) x20_1) t254 t255 (l0.take ((ji3) : Int).toNat) ((l0.take ((ji3) : Int).toNat).length : Int) x20_1 x38_10 = some r) ∧ Aside0 (kq ≤ k1) ∧ Aside0 (Kd.R Kd.string 9 wc w.heap.size (fun _ => True) u6 x6_1) ∧ Aside0 (Below w.heap.size w wc))
                case first =>
                  have H := HC11.out
                  clear HC11
                  by_cases c13 : (rdOf ByteArray.empty (l0.take ((ji3) : Int).toNat) x20_1).toList = ([] : List UInt8)
                  · rw [if_pos c13] at H
                    have c13b0 : ((rdOf ByteArray.empty (l0.take ((ji3) : Int).toNat) x20_1).toList == ([] : List UInt8)) = true := beq_iff_eq.mpr c13
                    have c13b1 : ((rdOf ByteArray.empty (l0.take ((ji3) : Int).toNat) x20_1).toList != ([] : List UInt8)) = false := bne_eq_false_iff_eq.mpr c13
                    clear c13
                    (first | rw [c13b0] | (simp only [i64_w, i32_w]; rw [c13b0]) | skip)
                    have H' := Aside0.mk H
                    clear H
                    go_wp2
                    repeat (go_quiet (fail); try go_wp2)
                    go_meet
                    case rel => exact ⟨_, (((t255 == 0) != false)), (by first | rfl | (simp; done) | (simp [*]; done)), H', ⟨by have := HK1.out; first | omega | exact Nat.le_refl _⟩, ⟨by (with_reducible repeat (first | apply Kd.R_alloc | apply Kd.R_drewN | apply Kd.R_drew)); exact HO_6.out⟩, ⟨by repeat (first | (with_reducible first | exact HB.out | apply below_alloc | apply pw_below_drewN | apply below_drew1) | exact HB.out)⟩⟩
                  · rw [if_neg c13] at H
                    have c13b0 : ((rdOf ByteArray.empty (l0.take ((ji3) : Int).toNat) x20_1).toList == ([] : List UInt8)) = false := beq_eq_false_iff_ne.mpr c13
                    have c13b1 : ((rdOf ByteArray.empty (l0.take ((ji3) : Int).toNat) x20_1).toList != ([] : List UInt8)) = true := bne_iff_ne.mpr c13
                    (first | rw [c13b0] | (simp only [i64_w, i32_w]; rw [c13b0]) | skip)
                    have H' := Aside0.mk H
                    clear H
                    go_wp2
                    repeat (go_quiet (fail); try go_wp2)
                    go_meet
                    case rel => exact ⟨_, (((t255 == 0) != (decide (((rdOf ByteArray.empty (l0.take ((ji3) : Int).toNat) x20_1).size : Int) ≤ 4096)))), (by first | rfl | (simp; done) | (simp only [← hji3] <;> (first | rfl | simp)) | (simp [*]; done)), H', ⟨by have := HK1.out; first | omega | exact Nat.le_refl _⟩, ⟨by (with_reducible repeat (first | apply Kd.R_alloc | apply Kd.R_drewN | apply Kd.R_drew)); exact HO_6.out⟩, ⟨by repeat (first | (with_reducible first | exact HB.out | apply below_alloc | apply pw_below_drewN | apply below_drew1) | exact HB.out)⟩⟩
                case rest =>
                  clear HC11
                  try clear c1
                  try clear p2
                  try clear q2
                  try clear hx2
                  try clear c4
                  try clear c4b0
                  try clear c4b1
                  try clear c5
                  try clear c5b0
                  try clear c5b1
                  try clear c7
                  try clear c7b0
                  try clear c8
                  try clear c8b0
                  try clear c9
                  try clear c9b0
                  try clear c13
                  try clear c13b0
                  try clear c13b1
                  try clear hx253_0
                  try clear p2
                  try clear p253
                  try clear q253
                  obtain ⟨kq, x38_10, rfl, HA, HJ10, HO_6, HB⟩ := hcut
                  cases kq with
                  | zero => exact absurd HA.out (by simp [precinctlaw03_FrameBack.j1])
                  | succ kj10 =>
                    have H := HA.out
                    clear HA
                    simp only [precinctlaw03_FrameBack.j1] at H
                    by_cases c14 : x38_10 = true
                    · subst c14
                      have H1 : (some false) = some r := by rw [if_pos rfl] at H; exact H
                      clear H
                      have H := H1
                      clear H1
                      exact absurd ((Option.some.inj H).trans hT_.out) (by decide)
                    · replace c14 := Bool.eq_false_iff.mpr c14
                      subst c14
                      have H1 : (if t255 = 0 then (if x6_1.length < 8796093022208 then (if x5_1.size + t254.size ≤ 9223372036854775807 then (precinctlaw03_FrameBack.l0 kj10 a1 (x5_1 ++ t254) (x6_1 ++ [(rdOf ByteArray.empty (l0.take ((ji3) : Int).toNat) x20_1)]) (l0.take ((ji3) : Int).toNat) ((l0.take ((ji3) : Int).toNat).length : Int) (wrap64 (x20_1 + 1))) else (none)) else (none)) else (if x5_1.size + t254.size ≤ 9223372036854775807 then (precinctlaw03_FrameBack.l0 kj10 a1 (x5_1 ++ t254) x6_1 (l0.take ((ji3) : Int).toNat) ((l0.take ((ji3) : Int).toNat).length : Int) (wrap64 (x20_1 + 1))) else (none))) = some r := by rw [if_neg (show ¬ (false = true) by decide)] at H; exact H
                      clear H
                      have H := H1
                      clear H1
                      by_cases c15 : t255 = 0
                      · rw [if_pos c15] at H
                        have c15b0 : (t255 == 0) = true := beq_iff_eq.mpr c15
                        have c15b1 : (t255 != 0) = false := bne_eq_false_iff_eq.mpr c15
                        clear c15
                        by_cases c16 : x6_1.length < 8796093022208
                        · rw [if_pos c16] at H
                          have LMc16 := Aside0.mk c16
                          clear c16
                          obtain ⟨y256, hy256⟩ : ∃ y_ : List ByteArray, y_ = (x6_1 ++ [(rdOf ByteArray.empty (l0.take ((ji3) : Int).toNat) x20_1)]) := ⟨_, rfl⟩
                          replace H : (if x5_1.size + t254.size ≤ 9223372036854775807 then (precinctlaw03_FrameBack.l0 kj10 a1 (x5_1 ++ t254) y256 (l0.take ((ji3) : Int).toNat) ((l0.take ((ji3) : Int).toNat).length : Int) (wrap64 (x20_1 + 1))) else (none)) = some r := by first | (rw [hy256]; with_reducible exact H) | (have H2_ := (Option.bind_some _ _).symm.trans H; rw [hy256]; with_reducible exact H2_) | (have H2_ := (Option.bind_some _ _).symm.trans H; with_reducible exact H2_) | with_reducible exact H | (rw [hy256]; exact H) | exact H
                          have Ny256 := Aside0.mk hy256
                          clear hy256
                          by_cases c17 : x5_1.size + t254.size ≤ 9223372036854775807
                          · rw [if_pos c17] at H
                            have c17b0 := eq_true c17
                            have c17b1 : decide (x5_1.size + t254.size ≤ 9223372036854775807) = true := decide_eq_true c17
                            try have c17b2 : (9223372036854775807 < x5_1.size + t254.size) = False := eq_false (Nat.not_lt.2 c17)
                            have H' := Aside0.mk H
                            clear H
                            go_wp2_with (first | ((with_reducible refine gate_builtin (b := .append) (xs := #[.tmp 41, .tmp 43]) rfl ?_); (try (refine gate_guard (by rfl) ?_; dsimp only)); at_builtin; refine Kd.R_append Kd.string (w0 := w) w.heap.size rfl (.tmp 41) (.tmp 43) 53 9 (.string ⟨#[]⟩) 16 rfl Try.underlying53 info9 rfl (by decide) (by omega) u6 x6_1 (rdOf ByteArray.empty (l0.take ((ji3) : Int).toNat) x20_1) [.string (rdOf ByteArray.empty (l0.take ((ji3) : Int).toNat) x20_1)] (fun _ => True) (fun _ => False) rfl rfl ?aP (fun _ hk => hk.elim) ?aF ?aO ?aB ?aS ?aL ?_; (case aP => exact rfl); (case aB => exact (by repeat (first | (with_reducible first | exact HB.out | apply below_alloc | apply pw_below_drewN | apply below_drew1) | exact HB.out))); (case aF => exact (fun _ _ => trivial)); (case aO => exact (by (with_reducible repeat (first | apply Kd.R_alloc | apply Kd.R_drewN | apply Kd.R_drew)); exact HO_6.out)); (case aS => exact (below_size (by repeat (first | (with_reducible first | exact HB.out | apply below_alloc | apply pw_below_drewN | apply below_drew1) | exact HB.out)))); (case aL => have := LMc16.out; omega); intro v257 w18 ho hb hg hat; rw [← Ny256.out] at ho; have n0_ := Aside0.mk (hb); have n1_ := Aside0.mk (ho); clear HB; clear HO_6; have HB := n0_; have HO258 := n1_; clear n0_ n1_; clear ho hb hg hat))
                            repeat (go_quiet (first | ((with_reducible refine gate_builtin (b := .append) (xs := #[.tmp 41, .tmp 43]) rfl ?_); (try (refine gate_guard (by rfl) ?_; dsimp only)); at_builtin; refine Kd.R_append Kd.string (w0 := w) w.heap.size rfl (.tmp 41) (.tmp 43) 53 9 (.string ⟨#[]⟩) 16 rfl Try.underlying53 info9 rfl (by decide) (by omega) u6 x6_1 (rdOf ByteArray.empty (l0.take ((ji3) : Int).toNat) x20_1) [.string (rdOf ByteArray.empty (l0.take ((ji3) : Int).toNat) x20_1)] (fun _ => True) (fun _ => False) rfl rfl ?aP (fun _ hk => hk.elim) ?aF ?aO ?aB ?aS ?aL ?_; (case aP => exact rfl); (case aB => exact (by repeat (first | (with_reducible first | exact HB.out | apply below_alloc | apply pw_below_drewN | apply below_drew1) | exact HB.out))); (case aF => exact (fun _ _ => trivial)); (case aO => exact (by (with_reducible repeat (first | apply Kd.R_alloc | apply Kd.R_drewN | apply Kd.R_drew)); exact HO_6.out)); (case aS => exact (below_size (by repeat (first | (with_reducible first | exact HB.out | apply below_alloc | apply pw_below_drewN | apply below_drew1) | exact HB.out)))); (case aL => have := LMc16.out; omega); intro v257 w18 ho hb hg hat; rw [← Ny256.out] at ho; have n0_ := Aside0.mk (hb); have n1_ := Aside0.mk (ho); clear HB; clear HO_6; have HB := n0_; have HO258 := n1_; clear n0_ n1_; clear ho hb hg hat)); try go_wp2_with (first | ((with_reducible refine gate_builtin (b := .append) (xs := #[.tmp 41, .tmp 43]) rfl ?_); (try (refine gate_guard (by rfl) ?_; dsimp only)); at_builtin; refine Kd.R_append Kd.string (w0 := w) w.heap.size rfl (.tmp 41) (.tmp 43) 53 9 (.string ⟨#[]⟩) 16 rfl Try.underlying53 info9 rfl (by decide) (by omega) u6 x6_1 (rdOf ByteArray.empty (l0.take ((ji3) : Int).toNat) x20_1) [.string (rdOf ByteArray.empty (l0.take ((ji3) : Int).toNat) x20_1)] (fun _ => True) (fun _ => False) rfl rfl ?aP (fun _ hk => hk.elim) ?aF ?aO ?aB ?aS ?aL ?_; (case aP => exact rfl); (case aB => exact (by repeat (first | (with_reducible first | exact HB.out | apply below_alloc | apply pw_below_drewN | apply below_drew1) | exact HB.out))); (case aF => exact (fun _ _ => trivial)); (case aO => exact (by (with_reducible repeat (first | apply Kd.R_alloc | apply Kd.R_drewN | apply Kd.R_drew)); exact HO_6.out)); (case aS => exact (below_size (by repeat (first | (with_reducible first | exact HB.out | apply below_alloc | apply pw_below_drewN | apply below_drew1) | exact HB.out)))); (case aL => have := LMc16.out; omega); intro v257 w18 ho hb hg hat; rw [← Ny256.out] at ho; have n0_ := Aside0.mk (hb); have n1_ := Aside0.mk (ho); clear HB; clear HO_6; have HB := n0_; have HO258 := n1_; clear n0_ n1_; clear ho hb hg hat)))
                            go_roundg kj10
                            case measure => have := HK1.out; have := HJ10.out; omega
                            case rel => exact ⟨(x5_1 ++ t254), (y256), (wrap64 (x20_1 + 1)), (by first | rfl | (simp; done) | (simp [*]; done)), (by first | rfl | (simp; done) | (simp [*]; done)), H', ⟨by have := HK1.out; have := HJ10.out; omega⟩, ⟨by (with_reducible repeat (first | apply Kd.R_alloc | apply Kd.R_drewN | apply Kd.R_drew)); exact HO258.out⟩, ⟨by repeat (first | (with_reducible first | exact HB.out | apply below_alloc | apply pw_below_drewN | apply below_drew1) | exact HB.out)⟩⟩
                          · rw [if_neg c17] at H
                            exact absurd H (by simp)
                        · rw [if_neg c16] at H
                          exact absurd H (by simp)
                      · rw [if_neg c15] at H
                        have c15b0 : (t255 == 0) = false := beq_eq_false_iff_ne.mpr c15
                        have c15b1 : (t255 != 0) = true := bne_iff_ne.mpr c15
                        by_cases c19 : x5_1.size + t254.size ≤ 9223372036854775807
                        · rw [if_pos c19] at H
                          have c19b0 := eq_true c19
                          have c19b1 : decide (x5_1.size + t254.size ≤ 9223372036854775807) = true := decide_eq_true c19
                          try have c19b2 : (9223372036854775807 < x5_1.size + t254.size) = False := eq_false (Nat.not_lt.2 c19)
                          have H' := Aside0.mk H
                          clear H
                          go_wp2
                          repeat (go_quiet (fail); try go_wp2)
                          go_roundg kj10
                          case measure => have := HK1.out; have := HJ10.out; omega
                          case rel => exact ⟨(x5_1 ++ t254), (x6_1), (wrap64 (x20_1 + 1)), (by first | rfl | (simp; done) | (simp [*]; done)), (by first | rfl | (simp; done) | (simp [*]; done)), H', ⟨by have := HK1.out; have := HJ10.out; omega⟩, ⟨by (with_reducible repeat (first | apply Kd.R_alloc | apply Kd.R_drewN | apply Kd.R_drew)); exact HO_6.out⟩, ⟨by repeat (first | (with_reducible first | exact HB.out | apply below_alloc | apply pw_below_drewN | apply below_drew1) | exact HB.out)⟩⟩
                        · rw [if_neg c19] at H
                          exact absurd H (by simp)
              · rw [if_neg c9] at H
                exact absurd H (by simp)
            · rw [if_neg c8] at H
              exact absurd H (by simp)
          · rw [if_neg c7] at H
            have c7b0 : decide (x20_1 < ((l0.take ((ji3) : Int).toNat).length : Int)) = false := decide_eq_false c7
            (try have c7b0y : decide (x20_1 < max ji3 0) = false := by (have h_ := of_decide_eq_false c7b0; rw [List.length_take] at h_; exact decide_eq_false (by (have h2_ := hji3_; split at h2_ <;> omega))))
            (try have c7b0y : decide (x20_1 < max ji3 0) = false := by (have h_ := of_decide_eq_false c7b0; rw [List.length_take] at h_; exact decide_eq_false (by (have h2_ := hji3_; split at h2_ <;> omega))))
            clear c7
            obtain ⟨ji20, hji20⟩ : ∃ j_ : Int, (mx 0 a1) = j_ := ⟨_, rfl⟩
            replace H : (if 0 ≤ ((ji20) % 9) then (if ((ji20) % 9 : Int).toNat ≤ 281474976710656 then ((some (List.replicate ((ji20) % 9 : Int).toNat 0 : List Int)).bind fun y259 => (if x5_1.size + (strOfNums y259).size ≤ 9223372036854775807 then ((frame_All.f k1 (x5_1 ++ (strOfNums y259))).bind fun bt262 => ((precinctlaw03_wakes.f k1).bind fun t266 => (if t266 = true then (if (bt262.1.length : Int) = (x6_1.length : Int) then (precinctlaw03_FrameBack.j2 k1 x6_1 bt262.1 (bt262.2 != (x5_1.size : Int))) else (precinctlaw03_FrameBack.j2 k1 x6_1 bt262.1 true)) else (precinctlaw03_FrameBack.j2 k1 x6_1 bt262.1 true)))) else (none))) else (none)) else (none)) = some r := by first | (rw [hji20] at H; exact H) | (simp only [hji20] at H ⊢; exact H)
            have hji20_ : (if 0 < a1 then a1 else 0) = ji20 := hji20
            obtain ⟨ji21, hji21⟩ : ∃ j_ : Int, ((ji20) % 9) = j_ := ⟨_, rfl⟩
            replace H : (if 0 ≤ (ji21) then (if (ji21 : Int).toNat ≤ 281474976710656 then ((some (List.replicate (ji21 : Int).toNat 0 : List Int)).bind fun y259 => (if x5_1.size + (strOfNums y259).size ≤ 9223372036854775807 then ((frame_All.f k1 (x5_1 ++ (strOfNums y259))).bind fun bt262 => ((precinctlaw03_wakes.f k1).bind fun t266 => (if t266 = true then (if (bt262.1.length : Int) = (x6_1.length : Int) then (precinctlaw03_FrameBack.j2 k1 x6_1 bt262.1 (bt262.2 != (x5_1.size : Int))) else (precinctlaw03_FrameBack.j2 k1 x6_1 bt262.1 true)) else (precinctlaw03_FrameBack.j2 k1 x6_1 bt262.1 true)))) else (none))) else (none)) else (none)) = some r := by first | (rw [hji21] at H; exact H) | (simp only [hji21] at H ⊢; exact H)
            by_cases c22 : 0 ≤ (ji21)
            · rw [if_pos c22] at H
              have c22b0 := eq_true c22
              have c22b1 : decide (0 ≤ (ji21)) = true := decide_eq_true c22
              clear c22
              by_cases c23 : (ji21 : Int).toNat ≤ 281474976710656
              · rw [if_pos c23] at H
                have c23b0 := eq_true c23
                have c23b1 : decide ((ji21 : Int).toNat ≤ 281474976710656) = true := decide_eq_true c23
                clear c23
                obtain ⟨y259, hy259⟩ : ∃ y_ : List Int, y_ = (List.replicate (ji21 : Int).toNat 0) := ⟨_, rfl⟩
                replace H : (if x5_1.size + (strOfNums y259).size ≤ 9223372036854775807 then ((frame_All.f k1 (x5_1 ++ (strOfNums y259))).bind fun bt262 => ((precinctlaw03_wakes.f k1).bind fun t266 => (if t266 = true then (if (bt262.1.length : Int) = (x6_1.length : Int) then (precinctlaw03_FrameBack.j2 k1 x6_1 bt262.1 (bt262.2 != (x5_1.size : Int))) else (precinctlaw03_FrameBack.j2 k1 x6_1 bt262.1 true)) else (precinctlaw03_FrameBack.j2 k1 x6_1 bt262.1 true)))) else (none)) = some r := by first | (rw [hy259]; with_reducible exact H) | (have H2_ := (Option.bind_some _ _).symm.trans H; rw [hy259]; with_reducible exact H2_) | (have H2_ := (Option.bind_some _ _).symm.trans H; with_reducible exact H2_) | with_reducible exact H | (rw [hy259]; exact H) | exact H
                have Ny259 := Aside0.mk hy259
                clear hy259
                by_cases c24 : x5_1.size + (strOfNums y259).size ≤ 9223372036854775807
                · rw [if_pos c24] at H
                  have c24b0 := eq_true c24
                  have c24b1 : decide (x5_1.size + (strOfNums y259).size ≤ 9223372036854775807) = true := decide_eq_true c24
                  try have c24b2 : (9223372036854775807 < x5_1.size + (strOfNums y259).size) = False := eq_false (Nat.not_lt.2 c24)
                  replace H := Option.bind_eq_some_iff.mp H
                  obtain ⟨⟨t262, t263⟩, A250, H⟩ := H
                  replace H : ((precinctlaw03_wakes.f k1).bind fun t266 => (if t266 = true then (if (t262.length : Int) = (x6_1.length : Int) then (precinctlaw03_FrameBack.j2 k1 x6_1 t262 (t263 != (x5_1.size : Int))) else (precinctlaw03_FrameBack.j2 k1 x6_1 t262 true)) else (precinctlaw03_FrameBack.j2 k1 x6_1 t262 true))) = some r := H
                  have A25 := Aside0.mk A250
                  clear A250
                  have HC26 := Aside0.mk H
                  clear H
                  go_upto_region 14 with (first | ((with_reducible refine gate_dst (N := 54) rfl ?_); (try (refine gate_guard (by rfl) ?_; dsimp only)); (try rw [hji21]); refine Kd.R_make (Kd.int .u8) _ 5 rfl (N := 54) rfl 59 _ _ rfl ji21 rfl rfl Try.underlying59 (.int .u8 0) 1 info5 rfl (by decide) (by omega) 0 (ok := fun _ => True) (okp := fun _ => True) rfl (fun _ hk => hk) trivial (of_decide_eq_true (by first | (with_reducible assumption) | assumption)) (Nat.le_trans (Nat.mul_le_mul_right _ (of_decide_eq_true (by first | (with_reducible assumption) | assumption) : ji21.toNat ≤ 281474976710656)) (by omega)) (Below.refl _ _) (Nat.le_refl _) ?_; intro v260 w27 ho28 hb hg_ hnew_; clear hg_ hnew_; (first | rw [← Ny259.out] at ho28 | (simp only [Int.reduceToNat] at ho28; rw [← Ny259.out] at ho28)); have n0_ := Aside0.mk (Kd.R_below (by (with_reducible repeat (first | apply Kd.R_alloc | apply Kd.R_drewN | apply Kd.R_drew)); exact HO_6.out) hb); have n1_ := Aside0.mk (Kd.R_lower ho28 (below_size (by repeat (first | (with_reducible first | exact HB.out | apply below_alloc | apply pw_below_drewN | apply below_drew1) | exact HB.out)))); have n2_ := Aside0.mk (below_step (by repeat (first | (with_reducible first | exact HB.out | apply below_alloc | apply pw_below_drewN | apply below_drew1) | exact HB.out)) hb); clear HO_6; clear HB; have HO_6 := n0_; have HO261 := n1_; have HB := n2_; clear n0_ n1_ n2_; clear hb ho28; have hcv29 := own_string (P := Try.prog) Try.underlying59 Try.underlying5 Try.underlying9 (Kd.own_of_R HO261.out)) | (go_at_call 43; (with_reducible refine (frame_All.calls k1 (x5_1 ++ (strOfNums y259)) t262 t263 _ A25.out).mono ?_); rintro e w30 ⟨v264, rfl, ho0, hb⟩; have n0_ := Aside0.mk (Kd.R_elder' (by (with_reducible repeat (first | apply Kd.R_alloc | apply Kd.R_drewN | apply Kd.R_drew)); exact HO_6.out) (Kd.R_base ho0) hb); have n1_ := Aside0.mk (Kd.R_below (by (with_reducible repeat (first | apply Kd.R_alloc | apply Kd.R_drewN | apply Kd.R_drew)); exact HO261.out) hb); have n2_ := Aside0.mk (Kd.R_lower (Kd.R_new' ho0 (Kd.R_lt (by (with_reducible repeat (first | apply Kd.R_alloc | apply Kd.R_drewN | apply Kd.R_drew)); exact HO_6.out))) (below_size (by repeat (first | (with_reducible first | exact HB.out | apply below_alloc | apply pw_below_drewN | apply below_drew1) | exact HB.out)))); have n3_ := Aside0.mk (below_step (by repeat (first | (with_reducible first | exact HB.out | apply below_alloc | apply pw_below_drewN | apply below_drew1) | exact HB.out)) hb); clear HO_6; clear HO261; clear HB; have HO_6 := n0_; have HO261 := n1_; have HO265 := n2_; have HB := n3_; clear n0_ n1_ n2_ n3_; (try clear hb); (try clear hb2); (try clear hk); (try clear hi); (try clear ho0)))
                  repeat (go_quiet (first | ((with_reducible refine gate_dst (N := 54) rfl ?_); (try (refine gate_guard (by rfl) ?_; dsimp only)); (try rw [hji21]); refine Kd.R_make (Kd.int .u8) _ 5 rfl (N := 54) rfl 59 _ _ rfl ji21 rfl rfl Try.underlying59 (.int .u8 0) 1 info5 rfl (by decide) (by omega) 0 (ok := fun _ => True) (okp := fun _ => True) rfl (fun _ hk => hk) trivial (of_decide_eq_true (by first | (with_reducible assumption) | assumption)) (Nat.le_trans (Nat.mul_le_mul_right _ (of_decide_eq_true (by first | (with_reducible assumption) | assumption) : ji21.toNat ≤ 281474976710656)) (by omega)) (Below.refl _ _) (Nat.le_refl _) ?_; intro v260 w27 ho28 hb hg_ hnew_; clear hg_ hnew_; (first | rw [← Ny259.out] at ho28 | (simp only [Int.reduceToNat] at ho28; rw [← Ny259.out] at ho28)); have n0_ := Aside0.mk (Kd.R_below (by (with_reducible repeat (first | apply Kd.R_alloc | apply Kd.R_drewN | apply Kd.R_drew)); exact HO_6.out) hb); have n1_ := Aside0.mk (Kd.R_lower ho28 (below_size (by repeat (first | (with_reducible first | exact HB.out | apply below_alloc | apply pw_below_drewN | apply below_drew1) | exact HB.out)))); have n2_ := Aside0.mk (below_step (by repeat (first | (with_reducible first | exact HB.out | apply below_alloc | apply pw_below_drewN | apply below_drew1) | exact HB.out)) hb); clear HO_6; clear HB; have HO_6 := n0_; have HO261 := n1_; have HB := n2_; clear n0_ n1_ n2_; clear hb ho28; have hcv29 := own_string (P := Try.prog) Try.underlying59 Try.underlying5 Try.underlying9 (Kd.own_of_R HO261.out)) | (go_at_call 43; (with_reducible refine (frame_All.calls k1 (x5_1 ++ (strOfNums y259)) t262 t263 _ A25.out).mono ?_); rintro e w30 ⟨v264, rfl, ho0, hb⟩; have n0_ := Aside0.mk (Kd.R_elder' (by (with_reducible repeat (first | apply Kd.R_alloc | apply Kd.R_drewN | apply Kd.R_drew)); exact HO_6.out) (Kd.R_base ho0) hb); have n1_ := Aside0.mk (Kd.R_below (by (with_reducible repeat (first | apply Kd.R_alloc | apply Kd.R_drewN | apply Kd.R_drew)); exact HO261.out) hb); have n2_ := Aside0.mk (Kd.R_lower (Kd.R_new' ho0 (Kd.R_lt (by (with_reducible repeat (first | apply Kd.R_alloc | apply Kd.R_drewN | apply Kd.R_drew)); exact HO_6.out))) (below_size (by repeat (first | (with_reducible first | exact HB.out | apply below_alloc | apply pw_below_drewN | apply below_drew1) | exact HB.out)))); have n3_ := Aside0.mk (below_step (by repeat (first | (with_reducible first | exact HB.out | apply below_alloc | apply pw_below_drewN | apply below_drew1) | exact HB.out)) hb); clear HO_6; clear HO261; clear HB; have HO_6 := n0_; have HO261 := n1_; have HO265 := n2_; have HB := n3_; clear n0_ n1_ n2_ n3_; (try clear hb); (try clear hb2); (try clear hk); (try clear hi); (try clear ho0))); go_upto_region 14 with (first | ((with_reducible refine gate_dst (N := 54) rfl ?_); (try (refine gate_guard (by rfl) ?_; dsimp only)); (try rw [hji21]); refine Kd.R_make (Kd.int .u8) _ 5 rfl (N := 54) rfl 59 _ _ rfl ji21 rfl rfl Try.underlying59 (.int .u8 0) 1 info5 rfl (by decide) (by omega) 0 (ok := fun _ => True) (okp := fun _ => True) rfl (fun _ hk => hk) trivial (of_decide_eq_true (by first | (with_reducible assumption) | assumption)) (Nat.le_trans (Nat.mul_le_mul_right _ (of_decide_eq_true (by first | (with_reducible assumption) | assumption) : ji21.toNat ≤ 281474976710656)) (by omega)) (Below.refl _ _) (Nat.le_refl _) ?_; intro v260 w27 ho28 hb hg_ hnew_; clear hg_ hnew_; (first | rw [← Ny259.out] at ho28 | (simp only [Int.reduceToNat] at ho28; rw [← Ny259.out] at ho28)); have n0_ := Aside0.mk (Kd.R_below (by (with_reducible repeat (first | apply Kd.R_alloc | apply Kd.R_drewN | apply Kd.R_drew)); exact HO_6.out) hb); have n1_ := Aside0.mk (Kd.R_lower ho28 (below_size (by repeat (first | (with_reducible first | exact HB.out | apply below_alloc | apply pw_below_drewN | apply below_drew1) | exact HB.out)))); have n2_ := Aside0.mk (below_step (by repeat (first | (with_reducible first | exact HB.out | apply below_alloc | apply pw_below_drewN | apply below_drew1) | exact HB.out)) hb); clear HO_6; clear HB; have HO_6 := n0_; have HO261 := n1_; have HB := n2_; clear n0_ n1_ n2_; clear hb ho28; have hcv29 := own_string (P := Try.prog) Try.underlying59 Try.underlying5 Try.underlying9 (Kd.own_of_R HO261.out)) | (go_at_call 43; (with_reducible refine (frame_All.calls k1 (x5_1 ++ (strOfNums y259)) t262 t263 _ A25.out).mono ?_); rintro e w30 ⟨v264, rfl, ho0, hb⟩; have n0_ := Aside0.mk (Kd.R_elder' (by (with_reducible repeat (first | apply Kd.R_alloc | apply Kd.R_drewN | apply Kd.R_drew)); exact HO_6.out) (Kd.R_base ho0) hb); have n1_ := Aside0.mk (Kd.R_below (by (with_reducible repeat (first | apply Kd.R_alloc | apply Kd.R_drewN | apply Kd.R_drew)); exact HO261.out) hb); have n2_ := Aside0.mk (Kd.R_lower (Kd.R_new' ho0 (Kd.R_lt (by (with_reducible repeat (first | apply Kd.R_alloc | apply Kd.R_drewN | apply Kd.R_drew)); exact HO_6.out))) (below_size (by repeat (first | (with_reducible first | exact HB.out | apply below_alloc | apply pw_below_drewN | apply below_drew1) | exact HB.out)))); have n3_ := Aside0.mk (below_step (by repeat (first | (with_reducible first | exact HB.out | apply below_alloc | apply pw_below_drewN | apply below_drew1) | exact HB.out)) hb); clear HO_6; clear HO261; clear HB; have HO_6 := n0_; have HO261 := n1_; have HO265 := n2_; have HB := n3_; clear n0_ n1_ n2_ n3_; (try clear hb); (try clear hb2); (try clear hk); (try clear hi); (try clear ho0))))
                  (try simp only [Act.put, List.setIfInBounds_toArray, List.set_cons_zero, List.set_cons_succ])
                  go_cut [74] (fun v74 wc => ∃ (kq : Nat) (x74_25 : Bool), v74 = .bool x74_25 ∧ Aside0 (precinctlaw03_FrameBack.j2 kq x6_1 t262 x74_25 = some r) ∧ Aside0 (kq ≤ k1) ∧ Aside0 (Kd.R Kd.string 9 wc w.heap.size (fun k_ => some k_ ≠ (v264 : Value).ownBlock) u6 x6_1) ∧ Aside0 (Kd.R Kd.string 9 wc w.heap.size (fun k_ => some k_ ≠ (u6 : Value).ownBlock) v264 t262) ∧ Aside0 (Below w.heap.size w wc))
                  case first =>
                    have H := HC26.out
                    clear HC26
                    replace H := Option.bind_eq_some_iff.mp H
                    obtain ⟨t266, A310, H⟩ := H
                    replace H : (if t266 = true then (if (t262.length : Int) = (x6_1.length : Int) then (precinctlaw03_FrameBack.j2 k1 x6_1 t262 (t263 != (x5_1.size : Int))) else (precinctlaw03_FrameBack.j2 k1 x6_1 t262 true)) else (precinctlaw03_FrameBack.j2 k1 x6_1 t262 true)) = some r := H
                    have A31 := Aside0.mk A310
                    clear A310
                    by_cases c32 : t266 = true
                    · subst c32
                      have H1 : (if (t262.length : Int) = (x6_1.length : Int) then (precinctlaw03_FrameBack.j2 k1 x6_1 t262 (t263 != (x5_1.size : Int))) else (precinctlaw03_FrameBack.j2 k1 x6_1 t262 true)) = some r := by rw [if_pos rfl] at H; exact H
                      clear H
                      have H := H1
                      clear H1
                      by_cases c33 : (t262.length : Int) = (x6_1.length : Int)
                      · rw [if_pos c33] at H
                        have c33b0 : ((t262.length : Int) == (x6_1.length : Int)) = true := beq_iff_eq.mpr c33
                        have c33b1 : ((t262.length : Int) != (x6_1.length : Int)) = false := bne_eq_false_iff_eq.mpr c33
                        have c33b2 : (t262.length == x6_1.length) = true := by first | simpa using c33 | (simp at c33 ⊢; omega)
                        clear c33
                        (first | rw [c33b0] | (simp only [i64_w, i32_w]; rw [c33b0]) | skip)
                        have H' := Aside0.mk H
                        clear H
                        go_wp2_with (first | (go_at_call 40; (with_reducible refine (precinctlaw03_wakes.calls k1  true _ A31.out).mono ?_); rintro e w34 ⟨rfl, hb⟩; have n0_ := Aside0.mk (Kd.R_below (by (with_reducible repeat (first | apply Kd.R_alloc | apply Kd.R_drewN | apply Kd.R_drew)); exact HO_6.out) hb); have n1_ := Aside0.mk (Kd.R_below (by (with_reducible repeat (first | apply Kd.R_alloc | apply Kd.R_drewN | apply Kd.R_drew)); exact HO261.out) hb); have n2_ := Aside0.mk (Kd.R_below (by (with_reducible repeat (first | apply Kd.R_alloc | apply Kd.R_drewN | apply Kd.R_drew)); exact HO265.out) hb); have n3_ := Aside0.mk (below_step (by repeat (first | (with_reducible first | exact HB.out | apply below_alloc | apply pw_below_drewN | apply below_drew1) | exact HB.out)) hb); clear HO_6; clear HO261; clear HO265; clear HB; have HO_6 := n0_; have HO261 := n1_; have HO265 := n2_; have HB := n3_; clear n0_ n1_ n2_ n3_; (try clear hb); (try clear hb2); (try clear hk); (try clear hi); obtain ⟨Ao35, co35, eo35⟩ := Kd.R_slice HO265.out; subst eo35; obtain ⟨Ao36, co36, eo36⟩ := Kd.R_slice HO_6.out; subst eo36))
                        repeat (go_quiet (first | (go_at_call 40; (with_reducible refine (precinctlaw03_wakes.calls k1  true _ A31.out).mono ?_); rintro e w34 ⟨rfl, hb⟩; have n0_ := Aside0.mk (Kd.R_below (by (with_reducible repeat (first | apply Kd.R_alloc | apply Kd.R_drewN | apply Kd.R_drew)); exact HO_6.out) hb); have n1_ := Aside0.mk (Kd.R_below (by (with_reducible repeat (first | apply Kd.R_alloc | apply Kd.R_drewN | apply Kd.R_drew)); exact HO261.out) hb); have n2_ := Aside0.mk (Kd.R_below (by (with_reducible repeat (first | apply Kd.R_alloc | apply Kd.R_drewN | apply Kd.R_drew)); exact HO265.out) hb); have n3_ := Aside0.mk (below_step (by repeat (first | (with_reducible first | exact HB.out | apply below_alloc | apply pw_below_drewN | apply below_drew1) | exact HB.out)) hb); clear HO_6; clear HO261; clear HO265; clear HB; have HO_6 := n0_; have HO261 := n1_; have HO265 := n2_; have HB := n3_; clear n0_ n1_ n2_ n3_; (try clear hb); (try clear hb2); (try clear hk); (try clear hi); obtain ⟨Ao35, co35, eo35⟩ := Kd.R_slice HO265.out; subst eo35; obtain ⟨Ao36, co36, eo36⟩ := Kd.R_slice HO_6.out; subst eo36)); try go_wp2_with (first | (go_at_call 40; (with_reducible refine (precinctlaw03_wakes.calls k1  true _ A31.out).mono ?_); rintro e w34 ⟨rfl, hb⟩; have n0_ := Aside0.mk (Kd.R_below (by (with_reducible repeat (first | apply Kd.R_alloc | apply Kd.R_drewN | apply Kd.R_drew)); exact HO_6.out) hb); have n1_ := Aside0.mk (Kd.R_below (by (with_reducible repeat (first | apply Kd.R_alloc | apply Kd.R_drewN | apply Kd.R_drew)); exact HO261.out) hb); have n2_ := Aside0.mk (Kd.R_below (by (with_reducible repeat (first | apply Kd.R_alloc | apply Kd.R_drewN | apply Kd.R_drew)); exact HO265.out) hb); have n3_ := Aside0.mk (below_step (by repeat (first | (with_reducible first | exact HB.out | apply below_alloc | apply pw_below_drewN | apply below_drew1) | exact HB.out)) hb); clear HO_6; clear HO261; clear HO265; clear HB; have HO_6 := n0_; have HO261 := n1_; have HO265 := n2_; have HB := n3_; clear n0_ n1_ n2_ n3_; (try clear hb); (try clear hb2); (try clear hk); (try clear hi); obtain ⟨Ao35, co35, eo35⟩ := Kd.R_slice HO265.out; subst eo35; obtain ⟨Ao36, co36, eo36⟩ := Kd.R_slice HO_6.out; subst eo36)))
                        go_meet
                        case rel => exact ⟨_, ((t263 != (x5_1.size : Int))), (by first | rfl | (simp; done) | (simp [*]; done)), H', ⟨by have := HK1.out; first | omega | exact Nat.le_refl _⟩, ⟨by (with_reducible repeat (first | apply Kd.R_alloc | apply Kd.R_drewN | apply Kd.R_drew)); exact Kd.R_mono HO_6.out (fun _ hk => hk.2)⟩, ⟨by (with_reducible repeat (first | apply Kd.R_alloc | apply Kd.R_drewN | apply Kd.R_drew)); exact Kd.R_mono HO265.out (fun _ hk => hk.2)⟩, ⟨by repeat (first | (with_reducible first | exact HB.out | apply below_alloc | apply pw_below_drewN | apply below_drew1) | exact HB.out)⟩⟩
                      · rw [if_neg c33] at H
                        have c33b0 : ((t262.length : Int) == (x6_1.length : Int)) = false := beq_eq_false_iff_ne.mpr c33
                        have c33b1 : ((t262.length : Int) != (x6_1.length : Int)) = true := bne_iff_ne.mpr c33
                        have c33b2 : (t262.length == x6_1.length) = false := by first | simpa using c33 | (simp at c33 ⊢; omega)
                        (first | rw [c33b0] | (simp only [i64_w, i32_w]; rw [c33b0]) | skip)
                        have H' := Aside0.mk H
                        clear H
                        go_wp2_with (first | (go_at_call 40; (with_reducible refine (precinctlaw03_wakes.calls k1  true _ A31.out).mono ?_); rintro e w37 ⟨rfl, hb⟩; have n0_ := Aside0.mk (Kd.R_below (by (with_reducible repeat (first | apply Kd.R_alloc | apply Kd.R_drewN | apply Kd.R_drew)); exact HO_6.out) hb); have n1_ := Aside0.mk (Kd.R_below (by (with_reducible repeat (first | apply Kd.R_alloc | apply Kd.R_drewN | apply Kd.R_drew)); exact HO261.out) hb); have n2_ := Aside0.mk (Kd.R_below (by (with_reducible repeat (first | apply Kd.R_alloc | apply Kd.R_drewN | apply Kd.R_drew)); exact HO265.out) hb); have n3_ := Aside0.mk (below_step (by repeat (first | (with_reducible first | exact HB.out | apply below_alloc | apply pw_below_drewN | apply below_drew1) | exact HB.out)) hb); clear HO_6; clear HO261; clear HO265; clear HB; have HO_6 := n0_; have HO261 := n1_; have HO265 := n2_; have HB := n3_; clear n0_ n1_ n2_ n3_; (try clear hb); (try clear hb2); (try clear hk); (try clear hi); obtain ⟨Ao38, co38, eo38⟩ := Kd.R_slice HO265.out; subst eo38; obtain ⟨Ao39, co39, eo39⟩ := Kd.R_slice HO_6.out; subst eo39))
                        repeat (go_quiet (first | (go_at_call 40; (with_reducible refine (precinctlaw03_wakes.calls k1  true _ A31.out).mono ?_); rintro e w37 ⟨rfl, hb⟩; have n0_ := Aside0.mk (Kd.R_below (by (with_reducible repeat (first | apply Kd.R_alloc | apply Kd.R_drewN | apply Kd.R_drew)); exact HO_6.out) hb); have n1_ := Aside0.mk (Kd.R_below (by (with_reducible repeat (first | apply Kd.R_alloc | apply Kd.R_drewN | apply Kd.R_drew)); exact HO261.out) hb); have n2_ := Aside0.mk (Kd.R_below (by (with_reducible repeat (first | apply Kd.R_alloc | apply Kd.R_drewN | apply Kd.R_drew)); exact HO265.out) hb); have n3_ := Aside0.mk (below_step (by repeat (first | (with_reducible first | exact HB.out | apply below_alloc | apply pw_below_drewN | apply below_drew1) | exact HB.out)) hb); clear HO_6; clear HO261; clear HO265; clear HB; have HO_6 := n0_; have HO261 := n1_; have HO265 := n2_; have HB := n3_; clear n0_ n1_ n2_ n3_; (try clear hb); (try clear hb2); (try clear hk); (try clear hi); obtain ⟨Ao38, co38, eo38⟩ := Kd.R_slice HO265.out; subst eo38; obtain ⟨Ao39, co39, eo39⟩ := Kd.R_slice HO_6.out; subst eo39)); try go_wp2_with (first | (go_at_call 40; (with_reducible refine (precinctlaw03_wakes.calls k1  true _ A31.out).mono ?_); rintro e w37 ⟨rfl, hb⟩; have n0_ := Aside0.mk (Kd.R_below (by (with_reducible repeat (first | apply Kd.R_alloc | apply Kd.R_drewN | apply Kd.R_drew)); exact HO_6.out) hb); have n1_ := Aside0.mk (Kd.R_below (by (with_reducible repeat (first | apply Kd.R_alloc | apply Kd.R_drewN | apply Kd.R_drew)); exact HO261.out) hb); have n2_ := Aside0.mk (Kd.R_below (by (with_reducible repeat (first | apply Kd.R_alloc | apply Kd.R_drewN | apply Kd.R_drew)); exact HO265.out) hb); have n3_ := Aside0.mk (below_step (by repeat (first | (with_reducible first | exact HB.out | apply below_alloc | apply pw_below_drewN | apply below_drew1) | exact HB.out)) hb); clear HO_6; clear HO261; clear HO265; clear HB; have HO_6 := n0_; have HO261 := n1_; have HO265 := n2_; have HB := n3_; clear n0_ n1_ n2_ n3_; (try clear hb); (try clear hb2); (try clear hk); (try clear hi); obtain ⟨Ao38, co38, eo38⟩ := Kd.R_slice HO265.out; subst eo38; obtain ⟨Ao39, co39, eo39⟩ := Kd.R_slice HO_6.out; subst eo39)))
                        go_meet
                        case rel => exact ⟨_, (true), (by first | rfl | (simp; done) | (simp [*]; done)), H', ⟨by have := HK1.out; first | omega | exact Nat.le_refl _⟩, ⟨by (with_reducible repeat (first | apply Kd.R_alloc | apply Kd.R_drewN | apply Kd.R_drew)); exact Kd.R_mono HO_6.out (fun _ hk => hk.2)⟩, ⟨by (with_reducible repeat (first | apply Kd.R_alloc | apply Kd.R_drewN | apply Kd.R_drew)); exact Kd.R_mono HO265.out (fun _ hk => hk.2)⟩, ⟨by repeat (first | (with_reducible first | exact HB.out | apply below_alloc | apply pw_below_drewN | apply below_drew1) | exact HB.out)⟩⟩
                    · replace c32 := Bool.eq_false_iff.mpr c32
                      subst c32
                      have H1 : (precinctlaw03_FrameBack.j2 k1 x6_1 t262 true) = some r := by rw [if_neg (show ¬ (false = true) by decide)] at H; exact H
                      clear H
                      have H := H1
                      clear H1
                      have H' := Aside0.mk H
                      clear H
                      go_wp2_with (first | (go_at_call 40; (with_reducible refine (precinctlaw03_wakes.calls k1  false _ A31.out).mono ?_); rintro e w40 ⟨rfl, hb⟩; have n0_ := Aside0.mk (Kd.R_below (by (with_reducible repeat (first | apply Kd.R_alloc | apply Kd.R_drewN | apply Kd.R_drew)); exact HO_6.out) hb); have n1_ := Aside0.mk (Kd.R_below (by (with_reducible repeat (first | apply Kd.R_alloc | apply Kd.R_drewN | apply Kd.R_drew)); exact HO261.out) hb); have n2_ := Aside0.mk (Kd.R_below (by (with_reducible repeat (first | apply Kd.R_alloc | apply Kd.R_drewN | apply Kd.R_drew)); exact HO265.out) hb); have n3_ := Aside0.mk (below_step (by repeat (first | (with_reducible first | exact HB.out | apply below_alloc | apply pw_below_drewN | apply below_drew1) | exact HB.out)) hb); clear HO_6; clear HO261; clear HO265; clear HB; have HO_6 := n0_; have HO261 := n1_; have HO265 := n2_; have HB := n3_; clear n0_ n1_ n2_ n3_; (try clear hb); (try clear hb2); (try clear hk); (try clear hi)))
                      repeat (go_quiet (first | (go_at_call 40; (with_reducible refine (precinctlaw03_wakes.calls k1  false _ A31.out).mono ?_); rintro e w40 ⟨rfl, hb⟩; have n0_ := Aside0.mk (Kd.R_below (by (with_reducible repeat (first | apply Kd.R_alloc | apply Kd.R_drewN | apply Kd.R_drew)); exact HO_6.out) hb); have n1_ := Aside0.mk (Kd.R_below (by (with_reducible repeat (first | apply Kd.R_alloc | apply Kd.R_drewN | apply Kd.R_drew)); exact HO261.out) hb); have n2_ := Aside0.mk (Kd.R_below (by (with_reducible repeat (first | apply Kd.R_alloc | apply Kd.R_drewN | apply Kd.R_drew)); exact HO265.out) hb); have n3_ := Aside0.mk (below_step (by repeat (first | (with_reducible first | exact HB.out | apply below_alloc | apply pw_below_drewN | apply below_drew1) | exact HB.out)) hb); clear HO_6; clear HO261; clear HO265; clear HB; have HO_6 := n0_; have HO261 := n1_; have HO265 := n2_; have HB := n3_; clear n0_ n1_ n2_ n3_; (try clear hb); (try clear hb2); (try clear hk); (try clear hi))); try go_wp2_with (first | (go_at_call 40; (with_reducible refine (precinctlaw03_wakes.calls k1  false _ A31.out).mono ?_); rintro e w40 ⟨rfl, hb⟩; have n0_ := Aside0.mk (Kd.R_below (by (with_reducible repeat (first | apply Kd.R_alloc | apply Kd.R_drewN | apply Kd.R_drew)); exact HO_6.out) hb); have n1_ := Aside0.mk (Kd.R_below (by (with_reducible repeat (first | apply Kd.R_alloc | apply Kd.R_drewN | apply Kd.R_drew)); exact HO261.out) hb); have n2_ := Aside0.mk (Kd.R_below (by (with_reducible repeat (first | apply Kd.R_alloc | apply Kd.R_drewN | apply Kd.R_drew)); exact HO265.out) hb); have n3_ := Aside0.mk (below_step (by repeat (first | (with_reducible first | exact HB.out | apply below_alloc | apply pw_below_drewN | apply below_drew1) | exact HB.out)) hb); clear HO_6; clear HO261; clear HO265; clear HB; have HO_6 := n0_; have HO261 := n1_; have HO265 := n2_; have HB := n3_; clear n0_ n1_ n2_ n3_; (try clear hb); (try clear hb2); (try clear hk); (try clear hi))))
                      go_meet
                      case rel => exact ⟨_, (true), (by first | rfl | (simp; done) | (simp [*]; done)), H', ⟨by have := HK1.out; first | omega | exact Nat.le_refl _⟩, ⟨by (with_reducible repeat (first | apply Kd.R_alloc | apply Kd.R_drewN | apply Kd.R_drew)); exact Kd.R_mono HO_6.out (fun _ hk => hk.2)⟩, ⟨by (with_reducible repeat (first | apply Kd.R_alloc | apply Kd.R_drewN | apply Kd.R_drew)); exact Kd.R_mono HO265.out (fun _ hk => hk.2)⟩, ⟨by repeat (first | (with_reducible first | exact HB.out | apply below_alloc | apply pw_below_drewN | apply below_drew1) | exact HB.out)⟩⟩
                  case rest =>
                    clear HC26
                    try clear c1
                    try clear c2
                    try clear p2
                    try clear q2
                    try clear hx2
                    try clear hcv2
                    try clear c3
                    try clear c4
                    try clear c4b0
                    try clear c4b1
                    try clear c5
                    try clear c5b0
                    try clear c5b1
                    try clear p6
                    try clear c7
                    try clear c7b0
                    try clear c8
                    try clear c8b0
                    try clear c9
                    try clear c9b0
                    try clear c13
                    try clear c13b0
                    try clear c13b1
                    try clear c14
                    try clear c15
                    try clear c15b0
                    try clear c15b1
                    try clear c16
                    try clear c17
                    try clear c17b0
                    try clear c17b1
                    try clear c17b2
                    try clear c19
                    try clear c19b0
                    try clear c19b1
                    try clear c19b2
                    try clear c22
                    try clear c22b0
                    try clear c22b1
                    try clear c23
                    try clear c23b0
                    try clear c23b1
                    try clear c24
                    try clear c24b0
                    try clear c24b1
                    try clear c24b2
                    try clear p25
                    try clear q25
                    try clear hx25
                    try clear hcv29
                    try clear c32
                    try clear c33
                    try clear c33b0
                    try clear c33b1
                    try clear c33b2
                    try clear hx253_0
                    try clear p2
                    try clear p253
                    try clear q2
                    try clear q253
                    obtain ⟨kq, x74_25, rfl, HA, HJ25, HO_6, HO_11, HB⟩ := hcut
                    cases kq with
                    | zero => exact absurd HA.out (by simp [precinctlaw03_FrameBack.j2])
                    | succ kj25 =>
                      have H := HA.out
                      clear HA
                      simp only [precinctlaw03_FrameBack.j2] at H
                      by_cases c41 : x74_25 = true
                      · subst c41
                        have H1 : (some false) = some r := by rw [if_pos rfl] at H; exact H
                        clear H
                        have H := H1
                        clear H1
                        exact absurd ((Option.some.inj H).trans hT_.out) (by decide)
                      · replace c41 := Bool.eq_false_iff.mpr c41
                        subst c41
                        have H1 : (precinctlaw03_FrameBack.l1 kj25 x6_1 t262 (t262.length : Int) 0) = some r := by rw [if_neg (show ¬ (false = true) by decide)] at H; exact H
                        clear H
                        have H := H1
                        clear H1
                        have H' := Aside0.mk H
                        clear H
                        obtain ⟨Ao42, co42, eo42⟩ := Kd.R_slice HO_11.out
                        subst eo42
                        go_wp2
                        repeat (go_quiet (fail); try go_wp2)
                        go_loopg [77] kj25 (fun kq v77 w' => ∃ (x77_3 : Int), v77 = .int .i64 x77_3 ∧ Aside0 (precinctlaw03_FrameBack.l1 kq x6_1 t262 (t262.length : Int) x77_3 = some r) ∧ Aside0 (kq ≤ kj25) ∧ Aside0 (Kd.R Kd.string 9 w' w.heap.size (fun k_ => some k_ ≠ ((.slice Ao42 t262.length co42) : Value).ownBlock) u6 x6_1) ∧ Aside0 (Kd.R Kd.string 9 w' w.heap.size (fun k_ => some k_ ≠ (u6 : Value).ownBlock) (.slice Ao42 t262.length co42) t262) ∧ Aside0 (Below w.heap.size w w'))
                        case atStart => exact ⟨(0), (by first | rfl | (simp; done) | (simp [*]; done)), H', ⟨Nat.le_refl _⟩, ⟨by (with_reducible repeat (first | apply Kd.R_alloc | apply Kd.R_drewN | apply Kd.R_drew)); exact HO_6.out⟩, ⟨by (with_reducible repeat (first | apply Kd.R_alloc | apply Kd.R_drewN | apply Kd.R_drew)); exact HO_11.out⟩, ⟨by repeat (first | (with_reducible first | exact HB.out | apply below_alloc | apply pw_below_drewN | apply below_drew1) | exact HB.out)⟩⟩
                        case round =>
                          clear H'
                          try clear c1
                          try clear c2
                          try clear p2
                          try clear q2
                          try clear hx2
                          try clear hcv2
                          try clear c3
                          try clear c4
                          try clear c4b0
                          try clear c4b1
                          try clear c5
                          try clear c5b0
                          try clear c5b1
                          try clear p6
                          try clear c7
                          try clear c7b0
                          try clear c8
                          try clear c8b0
                          try clear c9
                          try clear c9b0
                          try clear c13
                          try clear c13b0
                          try clear c13b1
                          try clear c14
                          try clear c15
                          try clear c15b0
                          try clear c15b1
                          try clear c16
                          try clear c17
                          try clear c17b0
                          try clear c17b1
                          try clear c17b2
                          try clear c19
                          try clear c19b0
                          try clear c19b1
                          try clear c19b2
                          try clear c22
                          try clear c22b0
                          try clear c22b1
                          try clear c23
                          try clear c23b0
                          try clear c23b1
                          try clear c24
                          try clear c24b0
                          try clear c24b1
                          try clear c24b2
                          try clear p25
                          try clear q25
                          try clear hx25
                          try clear hcv29
                          try clear c32
                          try clear c33
                          try clear c33b0
                          try clear c33b1
                          try clear c33b2
                          try clear c41
                          try clear hx253_0
                          try clear p2
                          try clear p25
                          try clear p253
                          try clear p6
                          try clear q2
                          try clear q25
                          try clear q253
                          obtain ⟨x77_3, rfl, HA, HK3, HO_6, HO_11, HB⟩ := hrel
                          cases gk with
                          | zero => exact absurd HA.out (by simp [precinctlaw03_FrameBack.l1])
                          | succ k3 =>
                            have H := HA.out
                            clear HA
                            simp only [precinctlaw03_FrameBack.l1] at H
                            by_cases c43 : x77_3 < (t262.length : Int)
                            · rw [if_pos c43] at H
                              have c43b0 : decide (x77_3 < (t262.length : Int)) = true := decide_eq_true c43
                              clear c43
                              by_cases c44 : 0 ≤ x77_3
                              · rw [if_pos c44] at H
                                have c44b0 : decide (0 ≤ x77_3) = true := decide_eq_true c44
                                clear c44
                                by_cases c45 : x77_3 < (t262.length : Int)
                                · rw [if_pos c45] at H
                                  have c45b0 : decide (x77_3 < (t262.length : Int)) = true := decide_eq_true c45
                                  clear c45
                                  by_cases c46 : x77_3 < (x6_1.length : Int)
                                  · rw [if_pos c46] at H
                                    have c46b0 : decide (x77_3 < (x6_1.length : Int)) = true := decide_eq_true c46
                                    clear c46
                                    by_cases c47 : (rdOf ByteArray.empty t262 x77_3).toList = (rdOf ByteArray.empty x6_1 x77_3).toList
                                    · rw [if_pos c47] at H
                                      have c47b0 : ((rdOf ByteArray.empty t262 x77_3).toList == (rdOf ByteArray.empty x6_1 x77_3).toList) = true := beq_iff_eq.mpr c47
                                      have c47b1 : ((rdOf ByteArray.empty t262 x77_3).toList != (rdOf ByteArray.empty x6_1 x77_3).toList) = false := bne_eq_false_iff_eq.mpr c47
                                      clear c47
                                      have H' := Aside0.mk H
                                      clear H
                                      have p267 : 0 ≤ (x77_3 : Int) := of_decide_eq_true (by first | (with_reducible assumption) | assumption)
                                      have q267 : x77_3 < (t262.length : Int) := of_decide_eq_true (by first | (with_reducible assumption) | assumption)
                                      obtain ⟨ad267, e267, hx267_0⟩ := Kd.at_string (Kd.R_reads' HO_11.out).2.2 x77_3 p267 q267
                                      cases e267
                                      replace p267 := eq_true p267
                                      replace q267 := eq_true q267
                                      obtain ⟨Ao48, co48, eo48⟩ := Kd.R_slice HO_6.out
                                      subst eo48
                                      have p268 : 0 ≤ (x77_3 : Int) := of_decide_eq_true (by first | (with_reducible assumption) | assumption)
                                      have q268 : x77_3 < (x6_1.length : Int) := of_decide_eq_true (by first | (with_reducible assumption) | assumption)
                                      obtain ⟨ad268, e268, hx268_0⟩ := Kd.at_string (Kd.R_reads' HO_6.out).2.2 x77_3 p268 q268
                                      cases e268
                                      replace p268 := eq_true p268
                                      replace q268 := eq_true q268
                                      go_wp2
                                      repeat (go_quiet (fail); try go_wp2)
                                      go_roundg k3
                                      case measure => have := HK1.out; have := HJ25.out; have := HK3.out; omega
                                      case rel => exact ⟨(wrap64 (x77_3 + 1)), (by first | rfl | (simp; done) | (simp [*]; done)), H', ⟨by have := HK1.out; have := HJ25.out; have := HK3.out; omega⟩, ⟨by (with_reducible repeat (first | apply Kd.R_alloc | apply Kd.R_drewN | apply Kd.R_drew)); exact HO_6.out⟩, ⟨by (with_reducible repeat (first | apply Kd.R_alloc | apply Kd.R_drewN | apply Kd.R_drew)); exact HO_11.out⟩, ⟨by repeat (first | (with_reducible first | exact HB.out | apply below_alloc | apply pw_below_drewN | apply below_drew1) | exact HB.out)⟩⟩
                                    · rw [if_neg c47] at H
                                      have c47b0 : ((rdOf ByteArray.empty t262 x77_3).toList == (rdOf ByteArray.empty x6_1 x77_3).toList) = false := beq_eq_false_iff_ne.mpr c47
                                      have c47b1 : ((rdOf ByteArray.empty t262 x77_3).toList != (rdOf ByteArray.empty x6_1 x77_3).toList) = true := bne_iff_ne.mpr c47
                                      exact absurd ((Option.some.inj H).trans hT_.out) (by decide)
                                  · rw [if_neg c46] at H
                                    exact absurd H (by simp)
                                · rw [if_neg c45] at H
                                  exact absurd H (by simp)
                              · rw [if_neg c44] at H
                                exact absurd H (by simp)
                            · rw [if_neg c43] at H
                              have c43b0 : decide (x77_3 < (t262.length : Int)) = false := decide_eq_false c43
                              clear c43
                              obtain rfl := Option.some.inj H
                              go_wp2
                              repeat (go_quiet (fail); try go_wp2)
                              go_ret
                              exact ⟨by first | rfl | (simp [errW_none, errW_some] <;> rfl) | (simp only [← hji3, ← hji20, ← hji21]; first | rfl | (simp [errW_none, errW_some] <;> rfl)) | (simp [*, errW_none, errW_some] <;> rfl), by repeat (first | (with_reducible first | exact HB.out | apply below_alloc | apply pw_below_drewN | apply below_drew1) | exact HB.out)⟩
                · rw [if_neg c24] at H
                  exact absurd H (by simp)
              · rw [if_neg c23] at H
                exact absurd H (by simp)
            · rw [if_neg c22] at H
              exact absurd H (by simp)
    · rw [if_neg c5] at H
      exact absurd H (by simp)
  · rw [if_neg c4] at H
    exact absurd H (by simp)

-- NOT PRINTED: function 16 (precinctlaw03_FrameBits)

end Go.Proofs.Ytfccgiccllnkkaa.PX
