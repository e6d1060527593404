-- printed by a program of this session out of the translation; see NOTES.md
import Derived.Test.YtjicfkmpgogppaaPGx0
import Derived.Test.YtjicfkmpgogppaaPGx7
import Derived.Test.YtjicfkmpgogppaaRb
namespace Go.Proofs.Ytjicfkmpgogppaa.PG
open Go.RowKit Go.Proofs.YtjicfkmpgogppaaW.PrintWords Go.Proofs.YtjicfkmpgogppaaW.PrintLast Go.Proofs.YtjicfkmpgogppaaW.PrintMore Go.Proofs.YtjicfkmpgogppaaRb
attribute [local go_sem] max2_int min2_int max_two min_two max_three min_three max_four min_four   -- for this text's walks alone
set_option linter.unusedVariables false
set_option linter.unusedSimpArgs false

/-! ### graph_behind: function 53 -/
mutual
def graph_behind.l0 : Nat → List Int → Int → Int → Option (List Int)
 | 0, _, _, _ => none
 | k + 1, x3, x9, x10 => if x10 < x9 then (graph_behind.l1 k x3 x10 x9 x10 (x3.length : Int) 0) else (some x3)
def graph_behind.l1 : Nat → List Int → Int → Int → Int → Int → Int → Option (List Int)
 | 0, _, _, _, _, _, _ => none
 | k + 1, x3, x4, x9, x10, x14, x15 => if x15 < x14 then (if 0 ≤ x15 then (if x15 < (x3.length : Int) then (if 0 ≤ x4 then (if (Go.bits .and .u32 (shr .u32 (rd x3 x15) x4) 1) = 1 then (if x4 < (x3.length : Int) then (graph_behind.l1 k (x3.set (x15 : Int).toNat (Go.bits .or .u32 (rd x3 x15) (rd x3 x4))) x4 x9 x10 x14 (wrap64 (x15 + 1))) else (none)) else (graph_behind.l1 k x3 x4 x9 x10 x14 (wrap64 (x15 + 1)))) else (none)) else (none)) else (none)) else (graph_behind.l0 k x3 x9 (wrap64 (x10 + 1)))
end
def graph_behind.f (k : Nat) (l0 : List Int) : Option (List Int) := (slices_Clone_uint32_uint32.f l0).bind fun t118 => (graph_behind.l0 k t118 (t118.length : Int) 0)
theorem graph_behind.mono_l : ∀ k, (∀ y0 y1 y2, LeO (graph_behind.l0 k y0 y1 y2) (graph_behind.l0 (k + 1) y0 y1 y2)) ∧ (∀ y0 y1 y2 y3 y4 y5, LeO (graph_behind.l1 k y0 y1 y2 y3 y4 y5) (graph_behind.l1 (k + 1) y0 y1 y2 y3 y4 y5))
 | 0 => ⟨fun _ _ _ r h => by simp [graph_behind.l0] at h, fun _ _ _ _ _ _ r h => by simp [graph_behind.l1] at h⟩
 | k + 1 => by
  obtain ⟨ih0, ih1⟩ := graph_behind.mono_l k
  refine ⟨?_, ?_⟩
  ·intro y0 y1 y2
   unfold graph_behind.l0
   repeat' first
   | (with_reducible exact ih0 _ _ _)
   | (with_reducible exact ih1 _ _ _ _ _ _)
   | (with_reducible exact LeO.refl _)
   | (with_reducible exact LeO.none _)
   | (with_reducible refine LeO.ite ?_ ?_)
   | (with_reducible refine LeO.bind ?_ (fun _ => ?_))
   | exact ih0 _ _ _
   | exact ih1 _ _ _ _ _ _
   | exact LeO.none _
   | refine LeO.ite ?_ ?_
   | refine LeO.bind ?_ (fun _ => ?_)
  ·intro y0 y1 y2 y3 y4 y5
   unfold graph_behind.l1
   repeat' first
   | (with_reducible exact ih0 _ _ _)
   | (with_reducible exact ih1 _ _ _ _ _ _)
   | (with_reducible exact LeO.refl _)
   | (with_reducible exact LeO.none _)
   | (with_reducible refine LeO.ite ?_ ?_)
   | (with_reducible refine LeO.bind ?_ (fun _ => ?_))
   | exact ih0 _ _ _
   | exact ih1 _ _ _ _ _ _
   | exact LeO.none _
   | refine LeO.ite ?_ ?_
   | refine LeO.bind ?_ (fun _ => ?_)
theorem graph_behind.mono : ∀ a0 k, LeO (graph_behind.f k a0) (graph_behind.f (k + 1) a0) := by
 intro a0 k
 obtain ⟨ih0, ih1⟩ := graph_behind.mono_l k
 unfold graph_behind.f
 repeat' first
   | (with_reducible exact ih0 _ _ _)
   | (with_reducible exact ih1 _ _ _ _ _ _)
   | (with_reducible exact LeO.refl _)
   | (with_reducible exact LeO.none _)
   | (with_reducible refine LeO.ite ?_ ?_)
   | (with_reducible refine LeO.bind ?_ (fun _ => ?_))
   | exact ih0 _ _ _
   | exact ih1 _ _ _ _ _ _
   | exact LeO.none _
   | refine LeO.ite ?_ ?_
   | refine LeO.bind ?_ (fun _ => ?_)
def graph_behind.T9 : Bool × List (List Nat × List Nat) := (true, [([], []), ([], []), ([0, 1], [0, 1]), ([2], [2]), ([], []), ([], []), ([4, 5], [4, 5]), ([6], [6]), ([3, 7], [3, 7]), ([0, 1, 0, 1, 2, 3, 4, 5, 6, 7, 8], [0, 1]), ([9, 8, 0, 1, 2, 3, 4, 5, 6, 7, 8], [8, 9])])
def graph_behind.B9 : List Nat := [0, 0, 3, 7, 0, 0, 48, 112, 255, 511, 1023]
theorem graph_behind.tab9 : rtab .any (opsOf Try.f53 9) = graph_behind.T9 := by kernel_rfl
theorem graph_behind.bits9 : waitsOk graph_behind.T9.2 graph_behind.B9 = true := by kernel_rfl
set_option maxHeartbeats 8000000 in
set_option maxRecDepth 100000 in
theorem graph_behind.calls (k : Nat) (A0 : Option Addr) (c0 : Nat) (l0 : List Int) (r : List Int) (w : World) (hr0 : Kd.C (Kd.int .u32) w A0 l0.length l0) (hc0 : l0.length ≤ c0) (h : graph_behind.f k l0 = some r) :
  Calls Try.prog 53 #[.slice A0 l0.length c0] w fun e w' => ∃ v0_ : Value, e = .returned (v0_) ∧ Kd.R (Kd.int .u32) 43 w' w.heap.size (fun _ => True) v0_ r ∧ Below w.heap.size w w' := by
 have HR0 := Aside0.mk hr0
 have HC0 := Aside0.mk hc0
 clear hr0 hc0
 have HB := Aside0.mk (Below.refl w.heap.size w)
 have H : ((slices_Clone_uint32_uint32.f l0).bind fun t118 => (graph_behind.l0 k t118 (t118.length : Int) 0)) = some r := h
 clear h
 replace H := Option.bind_eq_some_iff.mp H
 obtain ⟨t118, A20, H⟩ := H
 replace H : (graph_behind.l0 k t118 (t118.length : Int) 0) = some r := H
 have A2 := Aside0.mk A20
 clear A20
 have H' := Aside0.mk H
 clear H
 go_enter Try.func53, Try.ntmps53
 go_wp2_with (first | ((with_reducible refine gate_callee (f := 91) rfl ?_); refine goesL_ (some 7) rfl rfl Try.func91 (by kernel_rfl) rfl #[.slice A0 l0.length c0] rfl ag ?_; (with_reducible refine (slices_Clone_uint32_uint32.calls _ _ l0 t118 _ ?side1 ?side2 A2.out).mono ?_); (case side1 => repeat (first | exact HR0.out | (with_reducible refine Kd.C_alloc ?_ _) | (with_reducible refine Kd.C_drewN ?_ _) | (with_reducible refine Kd.C_drew ?_))); (case side2 => exact HC0.out); rintro e w3 ⟨v119, rfl, ho0, hb⟩; refine ⟨_, rfl, ?_⟩; have n0_ := Aside0.mk (Kd.R_lower ho0 (below_size bb)); have n1_ := Aside0.mk (below_step bb hb); clear HB; have HO120 := n0_; have HB := n1_; clear n0_ n1_; (try clear hb); (try clear hb2); (try clear hk); (try clear hi); (try clear ho0); obtain ⟨Ao4, co4, eo4⟩ := Kd.R_slice HO120.out; subst eo4))
 go_loopg [10] k (fun kq v10 w' => ∃ (x3_1 : List Int) (x10_1 : Int), v10 = .int .i64 x10_1 ∧ Aside0 (graph_behind.l0 kq x3_1 (t118.length : Int) x10_1 = some r) ∧ Aside0 (kq ≤ k) ∧ Aside0 (Kd.R (Kd.int .u32) 43 w' w.heap.size (fun _ => True) (.slice Ao4 t118.length co4) x3_1) ∧ Aside0 (Below w.heap.size w w'))
 case atStart => exact ⟨(t118), (0), (by first | rfl | (simp; done) | (simp [*]; done)), H', ⟨Nat.le_refl _⟩, ⟨kR HO120.out⟩, ⟨bb⟩⟩
 case round =>
  clear H'
  try clear p2
  obtain ⟨x3_1, x10_1, rfl, HA, HK1, HO_3, HB⟩ := hrel
  have hl3_1 := (Kd.R_reads' HO_3.out).1
  rw [hl3_1] at HO_3
  (try simp only [hl3_1])
  cases gk with
  | zero => exact absurd HA.out (by simp [graph_behind.l0])
  | succ k1 =>
   have H := HA.out
   clear HA
   simp only [graph_behind.l0] at H
   by_cases c5 : x10_1 < (t118.length : Int)
   ·rw [if_pos c5] at H
    have c5b0 : decide (x10_1 < (t118.length : Int)) = true := decide_eq_true c5
    (try (have c5b0z0 := c5b0; rw [hl3_1] at c5b0z0))
    (try (have c5b0y0 := c5b0; rw [← hl3_1] at c5b0y0))
    clear c5
    have H' := Aside0.mk H
    clear H
    go_wp2
    go_loopg [15] k1 (fun kq v15 w' => ∃ (x3_2 : List Int) (x15_2 : Int), v15 = .int .i64 x15_2 ∧ Aside0 (graph_behind.l1 kq x3_2 x10_1 (t118.length : Int) x10_1 (x3_1.length : Int) x15_2 = some r) ∧ Aside0 (kq ≤ k1) ∧ Aside0 (Kd.R (Kd.int .u32) 43 w' w.heap.size (fun _ => True) (.slice Ao4 x3_1.length co4) x3_2) ∧ Aside0 (Below w.heap.size w w'))
    case atStart => exact ⟨(x3_1), (0), (by first | rfl | (simp; done) | (simp [*]; done)), H', ⟨Nat.le_refl _⟩, ⟨by (try simp only [hl3_1]); (with_reducible repeat (first | apply Kd.R_alloc | apply Kd.R_drewN | apply Kd.R_drew)); exact HO_3.out⟩, ⟨bb⟩⟩
    case round =>
     clear H'
     try clear p2
     try clear c5
     try clear c5b0
     try clear p2
     obtain ⟨x3_2, x15_2, rfl, HA, HK2, HO_3, HB⟩ := hrel
     have hl3_2 := (Kd.R_reads' HO_3.out).1
     rw [hl3_2] at HO_3
     (try simp only [hl3_2])
     cases gk with
     | zero => exact absurd HA.out (by simp [graph_behind.l1])
     | succ k2 =>
      have H := HA.out
      clear HA
      simp only [graph_behind.l1] at H
      by_cases c6 : x15_2 < (x3_1.length : Int)
      ·rw [if_pos c6] at H
       have c6b0 : decide (x15_2 < (x3_1.length : Int)) = true := decide_eq_true c6
       (try (have c6b0z0 := c6b0; rw [hl3_1] at c6b0z0))
       (try (have c6b0y0 := c6b0; rw [← hl3_1] at c6b0y0))
       (try (have c6b0z1 := c6b0; rw [hl3_2] at c6b0z1))
       (try (have c6b0y1 := c6b0; rw [← hl3_2] at c6b0y1))
       clear c6
       by_cases c7 : 0 ≤ x15_2
       ·rw [if_pos c7] at H
        have c7b0 : decide (0 ≤ x15_2) = true := decide_eq_true c7
        clear c7
        by_cases c8 : x15_2 < (x3_2.length : Int)
        ·rw [if_pos c8] at H
         have c8b0 : decide (x15_2 < (x3_2.length : Int)) = true := decide_eq_true c8
         (try (have c8b0z0 := c8b0; rw [hl3_1] at c8b0z0))
         (try (have c8b0y0 := c8b0; rw [← hl3_1] at c8b0y0))
         (try (have c8b0z1 := c8b0; rw [hl3_2] at c8b0z1))
         (try (have c8b0y1 := c8b0; rw [← hl3_2] at c8b0y1))
         clear c8
         by_cases c9 : 0 ≤ x10_1
         ·rw [if_pos c9] at H
          have c9b0 := eq_true c9
          have c9b1 : decide (0 ≤ x10_1) = true := decide_eq_true c9
          clear c9
          obtain ⟨ji10, hji10⟩ : ∃ j_ : Int, (shr .u32 (rd x3_2 x15_2) x10_1) = j_ := ⟨_, rfl⟩
          replace H : (if (Go.bits .and .u32 (ji10) 1) = 1 then (if x10_1 < (x3_2.length : Int) then (graph_behind.l1 k2 (x3_2.set (x15_2 : Int).toNat (Go.bits .or .u32 (rd x3_2 x15_2) (rd x3_2 x10_1))) x10_1 (t118.length : Int) x10_1 (x3_1.length : Int) (wrap64 (x15_2 + 1))) else (none)) else (graph_behind.l1 k2 x3_2 x10_1 (t118.length : Int) x10_1 (x3_1.length : Int) (wrap64 (x15_2 + 1)))) = some r := by first | (rw [hji10] at H; exact H) | (simp only [hji10] at H ⊢; exact H)
          have hji10_ : ((rd x3_2 x15_2) / 2 ^ min x10_1.toNat 32) = ji10 := hji10
          have hji10z : x10_1 ≤ 32 → ((rd x3_2 x15_2) / 2 ^ x10_1.toNat) = ji10 := shr_small hji10
          by_cases c11 : (Go.bits .and .u32 (ji10) 1) = 1
          ·rw [if_pos c11] at H
           have c11b0 : ((Go.bits .and .u32 (ji10) 1) == 1) = true := beq_iff_eq.mpr c11
           have c11b1 : ((Go.bits .and .u32 (ji10) 1) != 1) = false := bne_eq_false_iff_eq.mpr c11
           clear c11
           by_cases c12 : x10_1 < (x3_2.length : Int)
           ·rw [if_pos c12] at H
            have c12b0 : decide (x10_1 < (x3_2.length : Int)) = true := decide_eq_true c12
            (try (have c12b0z0 := c12b0; rw [hl3_1] at c12b0z0))
            (try (have c12b0y0 := c12b0; rw [← hl3_1] at c12b0y0))
            (try (have c12b0z1 := c12b0; rw [hl3_2] at c12b0z1))
            (try (have c12b0y1 := c12b0; rw [← hl3_2] at c12b0y1))
            clear c12
            obtain ⟨y124, hy124⟩ : ∃ y_ : List Int, y_ = (x3_2.set (x15_2 : Int).toNat (Go.bits .or .u32 (rd x3_2 x15_2) (rd x3_2 x10_1))) := ⟨_, rfl⟩
            replace H : (graph_behind.l1 k2 y124 x10_1 (t118.length : Int) x10_1 (x3_1.length : Int) (wrap64 (x15_2 + 1))) = some r := by first | (rw [hy124]; with_reducible exact H) | (have H2_ := (Option.bind_some _ _).symm.trans H; rw [hy124]; with_reducible exact H2_) | (have H2_ := (Option.bind_some _ _).symm.trans H; with_reducible exact H2_) | with_reducible exact H | (rw [hy124]; exact H) | exact H
            have Ny124 := Aside0.mk hy124
            clear hy124
            have H' := Aside0.mk H
            clear H
            have p121 : 0 ≤ (x15_2 : Int) := of_decide_eq_true (by first | (with_reducible assumption) | assumption)
            have q121 : x15_2 < (x3_2.length : Int) := of_decide_eq_true (by first | (with_reducible assumption) | assumption)
            obtain ⟨ad121, e121, hx121_0⟩ := Kd.at_int (Kd.R_reads' HO_3.out).2.2 x15_2 p121 q121
            cases e121
            replace p121 := eq_true p121
            replace q121 := eq_true q121
            try go_wp2
            have n0_ := Aside0.mk (Kd.R_drew HO_3.out)
            have n1_ := Aside0.mk (below_drew1 HB.out)
            clear HO_3
            clear HB
            have HO_3 := n0_
            have HB := n1_
            clear n0_ n1_
            have p122 : 0 ≤ (x15_2 : Int) := of_decide_eq_true (by first | (with_reducible assumption) | assumption)
            have q122 : x15_2 < (x3_2.length : Int) := of_decide_eq_true (by first | (with_reducible assumption) | assumption)
            obtain ⟨ad122, e122, hx122_0⟩ := Kd.at_int (Kd.R_reads' HO_3.out).2.2 x15_2 p122 q122
            obtain rfl : ad121 = ad122 := (by injection e122)
            replace p122 := eq_true p122
            replace q122 := eq_true q122
            have p123 : 0 ≤ (x10_1 : Int) := of_decide_eq_true (by first | (with_reducible assumption) | assumption)
            have q123 : x10_1 < (x3_2.length : Int) := of_decide_eq_true (by first | (with_reducible assumption) | assumption)
            obtain ⟨ad123, e123, hx123_0⟩ := Kd.at_int (Kd.R_reads' HO_3.out).2.2 x10_1 p123 q123
            obtain rfl : ad121 = ad123 := (by injection e123)
            replace p123 := eq_true p123
            replace q123 := eq_true q123
            have p13 : 0 ≤ (x15_2 : Int) := of_decide_eq_true (by first | (with_reducible assumption) | assumption)
            have q13 : (x15_2 : Int) < ((x3_2.length : Int) : Int) := of_decide_eq_true (by first | (with_reducible assumption) | assumption)
            obtain ⟨go13, co13, eo13, gb13, gl13, cl13, HG13⟩ := Kd.R_form HO_3.out (by omega)
            (first | cases eo13 | (injection eo13 with ea_ en_ ec_; (first | subst ea_ | (injection ea_ with ea_; subst ea_)); subst ec_; clear en_))
            have GB13 := Aside0.mk gb13
            have GG13 := Aside0.mk HG13
            clear gb13 gl13 HG13
            (first | simp only [add_plain] at hx121_0 | skip)
            (first | simp only [add_plain] at hx122_0 | skip)
            (first | simp only [add_plain] at hx123_0 | skip)
            obtain ⟨hx13_0, hf13_0⟩ := Kd.R_celln 0 HO_3.out (x15_2 : Int) p13 q13
            replace p13 := eq_true p13
            replace q13 := eq_true q13
            have HP15 := Kd.R_putn HO_3.out (x15_2 : Int) (Go.bits .or .u32 (rd x3_2 x15_2) (rd x3_2 x10_1))
            rw [← Ny124.out] at HP15
            have HQ15 := Aside0.mk HP15
            clear HP15
            refine start_ (n := 11) (S := fun w' => w'.cell? ⟨go13, (x15_2).toNat, none⟩ = some (.int .u32 (rd x3_2 x15_2)) ∧ w'.cell? ⟨go13, (x10_1).toNat, none⟩ = some (.int .u32 (rd x3_2 x10_1))) (ds := [10]) #[false, false, false, false, false, false, false, false, false, false, false] (by kernel_rfl) rfl rfl ⟨hx122_0, hx123_0⟩ (fun hHeld => ?_); refine with_tabW graph_behind.tab9 graph_behind.bits9 (fun HT_ HW_ => ?_)
            generalize wr.drew = w14 at HO_3 HB GG13 HQ15 hf13_0 hx121_0 hx122_0 hx123_0 hx13_0 hHeld ⊢
            refine pure_ (i := 0) (N := some 26) (v := ?_) (a' := ?_) #[true, false, false, false, false, false, false, false, false, false, false] rfl rfl (any_of HT_.out (by kernel_rfl)) (fun _ _ _ h => h) (Or.inl ⟨by rfl, ?_⟩) ?_ ?_
            rotate_left
            ·intro w'
             go_simp
             with_reducible rfl
            rotate_left
            ·simp only [Act.put, List.setIfInBounds_toArray, List.set_cons_zero, List.set_cons_succ, i64_w, i32_w]
             rfl
            refine pure_ (i := 1) (N := some 27) (v := ?_) (a' := ?_) #[true, true, false, false, false, false, false, false, false, false, false] rfl rfl (any_of HT_.out (by kernel_rfl)) (fun _ _ _ h => h) (Or.inl ⟨by rfl, ?_⟩) ?_ ?_
            rotate_left
            ·intro w'
             go_simp
             with_reducible rfl
            rotate_left
            ·simp only [Act.put, List.setIfInBounds_toArray, List.set_cons_zero, List.set_cons_succ, i64_w, i32_w]
             rfl
            refine pure_ (i := 2) (N := some 28) (v := ?_) (a' := ?_) #[true, true, true, false, false, false, false, false, false, false, false] rfl rfl (any_of HT_.out (by kernel_rfl)) (fun _ _ _ h => h) (Or.inl ⟨by rfl, ?_⟩) ?_ ?_
            rotate_left
            ·intro w'
             go_simp
             with_reducible rfl
            rotate_left
            ·simp only [Act.put, List.setIfInBounds_toArray, List.set_cons_zero, List.set_cons_succ, i64_w, i32_w]
             rfl
            refine pure_ (i := 4) (N := some 30) (v := ?_) (a' := ?_) #[true, true, true, false, true, false, false, false, false, false, false] rfl rfl (any_of HT_.out (by kernel_rfl)) (fun _ _ _ h => h) (Or.inl ⟨by rfl, ?_⟩) ?_ ?_
            rotate_left
            ·intro w'
             go_simp
             with_reducible rfl
            rotate_left
            ·simp only [Act.put, List.setIfInBounds_toArray, List.set_cons_zero, List.set_cons_succ, i64_w, i32_w]
             rfl
            refine pure_ (i := 5) (N := some 31) (v := ?_) (a' := ?_) #[true, true, true, false, true, true, false, false, false, false, false] rfl rfl (any_of HT_.out (by kernel_rfl)) (fun _ _ _ h => h) (Or.inl ⟨by rfl, ?_⟩) ?_ ?_
            rotate_left
            ·intro w'
             go_simp
             with_reducible rfl
            rotate_left
            ·simp only [Act.put, List.setIfInBounds_toArray, List.set_cons_zero, List.set_cons_succ, i64_w, i32_w]
             rfl
            refine pure_ (i := 6) (N := some 32) (v := ?_) (a' := ?_) #[true, true, true, false, true, true, true, false, false, false, false] rfl rfl (any_of HT_.out (by kernel_rfl)) (fun _ _ _ h => h) (Or.inl ⟨by rfl, ?_⟩) ?_ ?_
            rotate_left
            ·intro w'
             go_simp
             with_reducible rfl
            rotate_left
            ·simp only [Act.put, List.setIfInBounds_toArray, List.set_cons_zero, List.set_cons_succ, i64_w, i32_w]
             rfl
            refine take_ (i := 3) (N := some 29) (v := ?_) (a' := ?_) #[true, true, true, true, true, true, true, false, false, false, false] rfl rfl (take_ofW HT_.out HW_.out (by kernel_rfl)) (fun _ _ _ h => h) (Or.inl ⟨by rfl, ?_⟩) hHeld ?_ ?_
            rotate_left
            ·rintro w' ⟨s0, s1⟩
             go_simp
             with_reducible rfl
            rotate_left
            ·simp only [Act.put, List.setIfInBounds_toArray, List.set_cons_zero, List.set_cons_succ, i64_w, i32_w]
             rfl
            refine take_ (i := 7) (N := some 33) (v := ?_) (a' := ?_) #[true, true, true, true, true, true, true, true, false, false, false] rfl rfl (take_ofW HT_.out HW_.out (by kernel_rfl)) (fun _ _ _ h => h) (Or.inl ⟨by rfl, ?_⟩) hHeld ?_ ?_
            rotate_left
            ·rintro w' ⟨s0, s1⟩
             go_simp
             with_reducible rfl
            rotate_left
            ·simp only [Act.put, List.setIfInBounds_toArray, List.set_cons_zero, List.set_cons_succ, i64_w, i32_w]
             rfl
            refine pure_ (i := 8) (N := some 34) (v := ?_) (a' := ?_) #[true, true, true, true, true, true, true, true, true, false, false] rfl rfl (any_of HT_.out (by kernel_rfl)) (fun _ _ _ h => h) (Or.inl ⟨by rfl, ?_⟩) ?_ ?_
            rotate_left
            ·intro w'
             go_simp
             with_reducible rfl
            rotate_left
            ·simp only [Act.put, List.setIfInBounds_toArray, List.set_cons_zero, List.set_cons_succ, i64_w, i32_w]
             rfl
            refine pure_ (i := 9) (N := some 35) (v := ?_) (a' := ?_) #[true, true, true, true, true, true, true, true, true, true, false] rfl rfl (any_of HT_.out (by kernel_rfl)) (fun _ _ _ h => h) (Or.inl ⟨by rfl, ?_⟩) ?_ ?_
            rotate_left
            ·intro w'
             go_simp
             with_reducible rfl
            rotate_left
            ·simp only [Act.put, List.setIfInBounds_toArray, List.set_cons_zero, List.set_cons_succ, i64_w, i32_w]
             rfl
            refine last_ (i := 10) (N := none) #[true, true, true, true, true, true, true, true, true, true, true] rfl rfl (one_of HT_.out (by kernel_rfl)) (by decide) (fun K hK => ?_)
            refine skip_ (w1 := ?_) (by rfl) rfl ?_ ?_
            rotate_left
            ·go_simp
             rfl
            refine hK.out _ _ ?_
            clear hK K
            refine done_ (done_of HT_.out (by kernel_rfl)) ?_
            try go_wp2
            (try simp only [← hl3_2])
            go_roundg k2
            case measure => have := HK1.out; have := HK2.out; omega
            case rel => exact ⟨(y124), (wrap64 (x15_2 + 1)), (by first | rfl | (simp; done) | (simp [*]; done)), H', ⟨by have := HK1.out; have := HK2.out; omega⟩, ⟨by (try simp only [hl3_1]); (try simp only [hl3_2]); (with_reducible repeat (first | apply Kd.R_alloc | apply Kd.R_drewN | apply Kd.R_drew)); exact HQ15.out⟩, ⟨by repeat (first | (with_reducible first | exact HB.out | apply below_alloc | apply pw_below_drewN | apply below_drew1 | refine below_set ?_ GB13.out) | exact HB.out)⟩⟩
           ·rw [if_neg c12] at H
            exact absurd H (by simp)
          ·rw [if_neg c11] at H
           have c11b0 : ((Go.bits .and .u32 (ji10) 1) == 1) = false := beq_eq_false_iff_ne.mpr c11
           have c11b1 : ((Go.bits .and .u32 (ji10) 1) != 1) = true := bne_iff_ne.mpr c11
           have H' := Aside0.mk H
           clear H
           have p121 : 0 ≤ (x15_2 : Int) := of_decide_eq_true (by first | (with_reducible assumption) | assumption)
           have q121 : x15_2 < (x3_2.length : Int) := of_decide_eq_true (by first | (with_reducible assumption) | assumption)
           obtain ⟨ad121, e121, hx121_0⟩ := Kd.at_int (Kd.R_reads' HO_3.out).2.2 x15_2 p121 q121
           cases e121
           replace p121 := eq_true p121
           replace q121 := eq_true q121
           go_wp2
           (try simp only [← hl3_2])
           go_roundg k2
           case measure => have := HK1.out; have := HK2.out; omega
           case rel => exact ⟨(x3_2), (wrap64 (x15_2 + 1)), (by first | rfl | (simp; done) | (simp [*]; done)), H', ⟨by have := HK1.out; have := HK2.out; omega⟩, ⟨by (try simp only [hl3_1]); (try simp only [hl3_2]); (with_reducible repeat (first | apply Kd.R_alloc | apply Kd.R_drewN | apply Kd.R_drew)); exact HO_3.out⟩, ⟨bb⟩⟩
         ·rw [if_neg c9] at H
          exact absurd H (by simp)
        ·rw [if_neg c8] at H
         exact absurd H (by simp)
       ·rw [if_neg c7] at H
        exact absurd H (by simp)
      ·rw [if_neg c6] at H
       have c6b0 : decide (x15_2 < (x3_1.length : Int)) = false := decide_eq_false c6
       (try (have c6b0z0 := c6b0; rw [hl3_1] at c6b0z0))
       (try (have c6b0y0 := c6b0; rw [← hl3_1] at c6b0y0))
       (try (have c6b0z1 := c6b0; rw [hl3_2] at c6b0z1))
       (try (have c6b0y1 := c6b0; rw [← hl3_2] at c6b0y1))
       clear c6
       have H' := Aside0.mk H
       clear H
       go_wp2
       (try simp only [← hl3_1, ← hl3_2])
       go_roundg k2
       case measure => have := HK1.out; have := HK2.out; omega
       case rel => exact ⟨(x3_2), (wrap64 (x10_1 + 1)), (by first | rfl | (simp; done) | (simp [*]; done)), H', ⟨by have := HK1.out; have := HK2.out; omega⟩, ⟨by (try simp only [hl3_1]); (try simp only [hl3_2]); (with_reducible repeat (first | apply Kd.R_alloc | apply Kd.R_drewN | apply Kd.R_drew)); exact HO_3.out⟩, ⟨bb⟩⟩
   ·rw [if_neg c5] at H
    have c5b0 : decide (x10_1 < (t118.length : Int)) = false := decide_eq_false c5
    (try (have c5b0z0 := c5b0; rw [hl3_1] at c5b0z0))
    (try (have c5b0y0 := c5b0; rw [← hl3_1] at c5b0y0))
    (try (have c5b0z1 := c5b0; rw [hl3_2] at c5b0z1))
    (try (have c5b0y1 := c5b0; rw [← hl3_2] at c5b0y1))
    clear c5
    obtain rfl := Option.some.inj H
    go_wp2
    go_ret
    exact ⟨_, by first | rfl | (simp [errW_none, errW_some] <;> rfl) | (simp [*, errW_none, errW_some] <;> rfl), kR HO_3.out, bb⟩

end Go.Proofs.Ytjicfkmpgogppaa.PG
