-- printed by a program of this session out of the translation; see NOTES.md
import Derived.Test.YtfccgiccllnkkaaPYx0
import Derived.Test.YtfccgiccllnkkaaPYx1
namespace Go.Proofs.Ytfccgiccllnkkaa.PY
open Go.RowKit Go.Proofs.YtfccgiccllnkkaaW.PrintWords Go.Proofs.YtfccgiccllnkkaaW.PrintLast Go.Proofs.YtfccgiccllnkkaaW.PrintMore
attribute [local go_sem] max2_int min2_int max_two min_two max_three min_three max_four min_four   -- for this text's walks alone
set_option linter.unusedVariables false
set_option linter.unusedSimpArgs false

/-! ### frame_All: function 43 -/
def frame_All.l0 : Nat → ByteArray → List ByteArray → Int → Option (List ByteArray × Int)
  | 0, _, _, _ => none
  | k + 1, x0, x4, x5 => (frame_Get.f k x0 x5).bind fun bt120 => (if bt120.2.2 = 0 then (if x4.length < 8796093022208 then (frame_All.l0 k x0 (x4 ++ [bt120.1]) bt120.2.1) else (none)) else (some (x4, x5)))
def frame_All.f (k : Nat) (a0 : ByteArray) : Option (List ByteArray × Int) := frame_All.l0 k a0 ([] : List ByteArray) 0
theorem frame_All.mono_l : ∀ k, (∀ y0 y1 y2, LeO (frame_All.l0 k y0 y1 y2) (frame_All.l0 (k + 1) y0 y1 y2))
  | 0 => fun _ _ _ r h => by simp [frame_All.l0] at h
  | k + 1 => by
    have ih0 := frame_All.mono_l k
    · intro y0 y1 y2
      unfold frame_All.l0
      repeat' first
      | (with_reducible exact ih0 _ _ _)
      | (with_reducible exact frame_Get.mono _ _ _)
      | (with_reducible exact LeO.refl _)
      | (with_reducible exact LeO.none _)
      | (with_reducible refine LeO.ite ?_ ?_)
      | (with_reducible refine LeO.bind ?_ (fun _ => ?_))
      | exact ih0 _ _ _
      | exact frame_Get.mono _ _ _
      | exact LeO.none _
      | refine LeO.ite ?_ ?_
      | refine LeO.bind ?_ (fun _ => ?_)
theorem frame_All.mono : ∀ a0 k, LeO (frame_All.f k a0) (frame_All.f (k + 1) a0) := by
  intro a0 k
  have ih0 := frame_All.mono_l k
  unfold frame_All.f
  repeat' first
      | (with_reducible exact ih0 _ _ _)
      | (with_reducible exact frame_Get.mono _ _ _)
      | (with_reducible exact LeO.refl _)
      | (with_reducible exact LeO.none _)
      | (with_reducible refine LeO.ite ?_ ?_)
      | (with_reducible refine LeO.bind ?_ (fun _ => ?_))
      | exact ih0 _ _ _
      | exact frame_Get.mono _ _ _
      | exact LeO.none _
      | refine LeO.ite ?_ ?_
      | refine LeO.bind ?_ (fun _ => ?_)
set_option maxHeartbeats 8000000 in
set_option maxRecDepth 100000 in
theorem frame_All.calls (k : Nat) (a0 : ByteArray) (r1 : List ByteArray) (r2 : Int) (w : World) (h : frame_All.f k a0 = some (r1, r2)) :
    Calls Try.prog 43 #[.string a0] w fun e w' => ∃ v0_ : Value, e = .returned (.tuple #[v0_, .int .i64 r2]) ∧ Kd.R Kd.string 9 w' w.heap.size (fun _ => True) v0_ r1 ∧ Below w.heap.size w w' := by
  have HB := Aside0.mk (Below.refl w.heap.size w)
  have H : (frame_All.l0 k a0 ([] : List ByteArray) 0) = some (r1, r2) := h
  clear h
  have H' := Aside0.mk H
  clear H
  go_enter Try.func43, Try.ntmps43
  go_wp2
  go_loopg [4, 5] k (fun kq v4 v5 w' => ∃ (x4_1 : List ByteArray) (x5_1 : Int), v5 = .int .i64 x5_1 ∧ Aside0 (frame_All.l0 kq a0 x4_1 x5_1 = some (r1, r2)) ∧ Aside0 (kq ≤ k) ∧ Aside0 (Kd.R Kd.string 9 w' w.heap.size (fun _ => True) v4 x4_1) ∧ Aside0 (Below w.heap.size w w'))
  case atStart => exact ⟨(([] : List ByteArray)), (0), (by first | rfl | (simp; done) | (simp [*]; done)), H', ⟨Nat.le_refl _⟩, ⟨by first | exact Kd.R_nil _ _ _ _ _ | exact Kd.N_nil _ _ _ _ _ | exact Kd.V_nil _ _ _ _ _ | exact Kd.Q_nil _ _ _ _ _ | exact Kd.S_nil _ _ _ _ _⟩, ⟨by repeat (first | (with_reducible first | exact HB.out | apply below_alloc | apply pw_below_drewN | apply below_drew1) | exact HB.out)⟩⟩
  case round =>
    clear H'
    obtain ⟨x4_1, x5_1, rfl, HA, HK1, HO_4, HB⟩ := hrel
    cases gk with
    | zero => exact absurd HA.out (by simp [frame_All.l0])
    | succ k1 =>
      have H := HA.out
      clear HA
      simp only [frame_All.l0] at H
      replace H := Option.bind_eq_some_iff.mp H
      obtain ⟨⟨t120, t121, t122⟩, A20, H⟩ := H
      replace H : (if t122 = 0 then (if x4_1.length < 8796093022208 then (frame_All.l0 k1 a0 (x4_1 ++ [t120]) t121) else (none)) else (some (x4_1, x5_1))) = some (r1, r2) := H
      have A2 := Aside0.mk A20
      clear A20
      by_cases c3 : t122 = 0
      · rw [if_pos c3] at H
        have c3b0 : (t122 == 0) = true := beq_iff_eq.mpr c3
        have c3b1 : (t122 != 0) = false := bne_eq_false_iff_eq.mpr c3
        clear c3
        by_cases c4 : x4_1.length < 8796093022208
        · rw [if_pos c4] at H
          have LMc4 := Aside0.mk c4
          clear c4
          obtain ⟨y123, hy123⟩ : ∃ y_ : List ByteArray, y_ = (x4_1 ++ [t120]) := ⟨_, rfl⟩
          replace H : (frame_All.l0 k1 a0 y123 t121) = some (r1, r2) := by first | (rw [hy123]; with_reducible exact H) | (have H2_ := (Option.bind_some _ _).symm.trans H; rw [hy123]; with_reducible exact H2_) | (have H2_ := (Option.bind_some _ _).symm.trans H; with_reducible exact H2_) | with_reducible exact H | (rw [hy123]; exact H) | exact H
          have Ny123 := Aside0.mk hy123
          clear hy123
          have H' := Aside0.mk H
          clear H
          go_wp2_with (first | ((with_reducible refine gate_callee (f := 41) rfl ?_); refine goesL_ (some 12) rfl rfl Try.func41 (by kernel_rfl) rfl #[.string a0, .int .i64 x5_1] rfl (by (try simp only [List.map_toArray, List.map_cons, List.map_nil]); first | done | rfl | (simp only [List.length_drop, List.length_take]; rfl)) ?_; (with_reducible refine (frame_Get.calls k1 a0 x5_1 t120 t121 t122 _ A2.out).mono ?_); rintro e w' ⟨rfl, ⟨nd, rfl⟩⟩; refine ⟨_, rfl, ?_⟩) | ((with_reducible refine gate_builtin (b := .append) (xs := #[.tmp 20, .tmp 22]) rfl ?_); at_builtin; refine Kd.R_append Kd.string (w0 := w) w.heap.size rfl (.tmp 20) (.tmp 22) 53 9 (.string ⟨#[]⟩) 16 rfl Try.underlying53 info9 rfl (by decide) (by omega) u4 x4_1 t120 [.string t120] (fun _ => True) (fun _ => False) rfl rfl ?aP (fun _ hk => hk.elim) ?aF ?aO ?aB ?aS ?aL ?_; (case aP => exact rfl); (case aB => exact (by repeat (first | (with_reducible first | exact HB.out | apply below_alloc | apply pw_below_drewN | apply below_drew1) | exact HB.out))); (case aF => exact (fun _ _ => trivial)); (case aO => exact (by (with_reducible repeat (first | apply Kd.R_alloc | apply Kd.R_drewN | apply Kd.R_drew)); exact HO_4.out)); (case aS => exact (below_size (by repeat (first | (with_reducible first | exact HB.out | apply below_alloc | apply pw_below_drewN | apply below_drew1) | exact HB.out)))); (case aL => have := LMc4.out; omega); intro v124 w5 ho hb hg hat; rw [← Ny123.out] at ho; have n0_ := Aside0.mk (hb); have n1_ := Aside0.mk (ho); clear HB; clear HO_4; have HB := n0_; have HO125 := n1_; clear n0_ n1_; clear ho hb hg hat))
          go_roundg k1
          case measure => have := HK1.out; omega
          case rel => exact ⟨(y123), (t121), (by first | rfl | (simp; done) | (simp [*]; done)), H', ⟨by have := HK1.out; omega⟩, ⟨by (with_reducible repeat (first | apply Kd.R_alloc | apply Kd.R_drewN | apply Kd.R_drew)); exact HO125.out⟩, ⟨by repeat (first | (with_reducible first | exact HB.out | apply below_alloc | apply pw_below_drewN | apply below_drew1) | exact HB.out)⟩⟩
        · rw [if_neg c4] at H
          exact absurd H (by simp)
      · rw [if_neg c3] at H
        have c3b0 : (t122 == 0) = false := beq_eq_false_iff_ne.mpr c3
        have c3b1 : (t122 != 0) = true := bne_iff_ne.mpr c3
        simp only [Option.some.injEq, Prod.mk.injEq] at H
        obtain ⟨rfl, rfl⟩ := H
        go_wp2_with (first | ((with_reducible refine gate_callee (f := 41) rfl ?_); refine goesL_ (some 12) rfl rfl Try.func41 (by kernel_rfl) rfl #[.string a0, .int .i64 x5_1] rfl (by (try simp only [List.map_toArray, List.map_cons, List.map_nil]); first | done | rfl | (simp only [List.length_drop, List.length_take]; rfl)) ?_; (with_reducible refine (frame_Get.calls k1 a0 x5_1 t120 t121 t122 _ A2.out).mono ?_); rintro e w' ⟨rfl, ⟨nd, rfl⟩⟩; refine ⟨_, rfl, ?_⟩))
        go_ret2
        exact ⟨_, by first | rfl | (simp [errW_none, errW_some] <;> rfl) | (simp [*, errW_none, errW_some] <;> rfl), by (with_reducible repeat (first | apply Kd.R_alloc | apply Kd.R_drewN | apply Kd.R_drew)); exact HO_4.out, by repeat (first | (with_reducible first | exact HB.out | apply below_alloc | apply pw_below_drewN | apply below_drew1) | exact HB.out)⟩

end Go.Proofs.Ytfccgiccllnkkaa.PY
