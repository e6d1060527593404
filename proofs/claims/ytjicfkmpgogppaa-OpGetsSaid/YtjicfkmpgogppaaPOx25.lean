-- printed by a program of this session out of the translation; see NOTES.md
import Derived.Test.YtjicfkmpgogppaaPOx0
import Derived.Test.YtjicfkmpgogppaaPOx24
import Derived.Test.YtjicfkmpgogppaaRb
namespace Go.Proofs.Ytjicfkmpgogppaa.PO
open Go.RowKit Go.Proofs.YtjicfkmpgogppaaW.PrintWords Go.Proofs.YtjicfkmpgogppaaW.PrintLast Go.Proofs.YtjicfkmpgogppaaW.PrintMore Go.Proofs.YtjicfkmpgogppaaRb
attribute [local go_sem] max2_int min2_int max_two min_two max_three min_three max_four min_four   -- for this text's walks alone
set_option linter.unusedVariables false
set_option linter.unusedSimpArgs false

/-! ### precinctlaw18_sameList: function 38 -/
def precinctlaw18_sameList.l0 : Nat → List (S54) → List (S57) → Int → Int → Option (Bool)
 | 0, _, _, _, _ => none
 | k + 1, x0, x1, x12, x13 => if x13 < x12 then (if 0 ≤ x13 then (if x13 < (x0.length : Int) then (if x13 < (x1.length : Int) then ((precinctlaw18_same.f k ((rd_T54 x0 x13).f0) ((rd_T54 x0 x13).f1) ((rd_T54 x0 x13).f2) ((rd_T54 x0 x13).f3) ((rd_T57 x1 x13).f0) ((rd_T57 x1 x13).f1) ((rd_T57 x1 x13).f2) ((rd_T57 x1 x13).f3)).bind fun t433 => (if t433 = true then (precinctlaw18_sameList.l0 k x0 x1 x12 (wrap64 (x13 + 1))) else (some false))) else (none)) else (none)) else (none)) else (some true)
def precinctlaw18_sameList.f (k : Nat) (l0 : List (S54)) (l1 : List (S57)) : Option (Bool) := if (l0.length : Int) = (l1.length : Int) then (precinctlaw18_sameList.l0 k l0 l1 (l0.length : Int) 0) else (some false)
theorem precinctlaw18_sameList.mono_l : ∀ k, (∀ y0 y1 y2 y3, LeO (precinctlaw18_sameList.l0 k y0 y1 y2 y3) (precinctlaw18_sameList.l0 (k + 1) y0 y1 y2 y3))
 | 0 => fun _ _ _ _ r h => by simp [precinctlaw18_sameList.l0] at h
 | k + 1 => by
  have ih0 := precinctlaw18_sameList.mono_l k
  ·intro y0 y1 y2 y3
   unfold precinctlaw18_sameList.l0
   repeat' first
   | (with_reducible exact ih0 _ _ _ _)
   | (with_reducible exact precinctlaw18_same.mono _ _ _ _ _ _ _ _ _)
   | (with_reducible exact LeO.refl _)
   | (with_reducible exact LeO.none _)
   | (with_reducible refine LeO.ite ?_ ?_)
   | (with_reducible refine LeO.bind ?_ (fun _ => ?_))
   | exact ih0 _ _ _ _
   | exact precinctlaw18_same.mono _ _ _ _ _ _ _ _ _
   | exact LeO.none _
   | refine LeO.ite ?_ ?_
   | refine LeO.bind ?_ (fun _ => ?_)
theorem precinctlaw18_sameList.mono : ∀ a0 a1 k, LeO (precinctlaw18_sameList.f k a0 a1) (precinctlaw18_sameList.f (k + 1) a0 a1) := by
 intro a0 a1 k
 have ih0 := precinctlaw18_sameList.mono_l k
 unfold precinctlaw18_sameList.f
 repeat' first
   | (with_reducible exact ih0 _ _ _ _)
   | (with_reducible exact precinctlaw18_same.mono _ _ _ _ _ _ _ _ _)
   | (with_reducible exact LeO.refl _)
   | (with_reducible exact LeO.none _)
   | (with_reducible refine LeO.ite ?_ ?_)
   | (with_reducible refine LeO.bind ?_ (fun _ => ?_))
   | exact ih0 _ _ _ _
   | exact precinctlaw18_same.mono _ _ _ _ _ _ _ _ _
   | exact LeO.none _
   | refine LeO.ite ?_ ?_
   | refine LeO.bind ?_ (fun _ => ?_)
def precinctlaw18_sameList.T6 : Bool × List (List Nat × List Nat) := (true, [([], []), ([], []), ([0, 1], [0, 1]), ([2], [2]), ([], []), ([], []), ([4, 5], [4, 5]), ([6], [6]), ([3, 7], [3, 7]), ([8], [8])])
def precinctlaw18_sameList.B6 : List Nat := [0, 0, 3, 7, 0, 0, 48, 112, 255, 511]
theorem precinctlaw18_sameList.tab6 : rtab .any (opsOf Try.f38 6) = precinctlaw18_sameList.T6 := by kernel_rfl
theorem precinctlaw18_sameList.bits6 : waitsOk precinctlaw18_sameList.T6.2 precinctlaw18_sameList.B6 = true := by kernel_rfl
set_option maxHeartbeats 8000000 in
set_option maxRecDepth 100000 in
theorem precinctlaw18_sameList.calls (k : Nat) (A0 : Option Addr) (c0 : Nat) (l0 : List (S54)) (A1 : Option Addr) (c1 : Nat) (l1 : List (S57)) (r : Bool) (w : World) (hr0 : Kd.C k54 w A0 l0.length l0) (hc0 : l0.length ≤ c0) (hr1 : Kd.C k57 w A1 l1.length l1) (hc1 : l1.length ≤ c1) (h : precinctlaw18_sameList.f k l0 l1 = some r) :
  Calls Try.prog 38 #[.slice A0 l0.length c0, .slice A1 l1.length c1] w fun e w' => e = .returned (.bool r) ∧ Below w.heap.size w w' := by
 have hu54 := Try.underlying54
 have hu57 := Try.underlying57
 have HR0 := Aside0.mk hr0
 have HC0 := Aside0.mk hc0
 clear hr0 hc0
 have HR1 := Aside0.mk hr1
 have HC1 := Aside0.mk hc1
 clear hr1 hc1
 have HB := Aside0.mk (Below.refl w.heap.size w)
 have H : (if (l0.length : Int) = (l1.length : Int) then (precinctlaw18_sameList.l0 k l0 l1 (l0.length : Int) 0) else (some false)) = some r := h
 clear h
 by_cases c3 : (l0.length : Int) = (l1.length : Int)
 ·rw [if_pos c3] at H
  have c3b0 : ((l0.length : Int) == (l1.length : Int)) = true := beq_iff_eq.mpr c3
  have c3b1 : ((l0.length : Int) != (l1.length : Int)) = false := bne_eq_false_iff_eq.mpr c3
  have c3b2 : (l0.length == l1.length) = true := by first | simpa using c3 | (simp at c3 ⊢; omega)
  clear c3
  have H' := Aside0.mk H
  clear H
  go_enter Try.func38, Try.ntmps38
  go_wp2
  go_loopg [13] k (fun kq v13 w' => ∃ (x13_1 : Int), v13 = .int .i64 x13_1 ∧ Aside0 (precinctlaw18_sameList.l0 kq l0 l1 (l0.length : Int) x13_1 = some r) ∧ Aside0 (kq ≤ k) ∧ Aside0 (Below w.heap.size w w'))
  case atStart => exact ⟨(0), (by first | rfl | (simp; done) | (simp [*]; done)), H', ⟨Nat.le_refl _⟩, ⟨bb⟩⟩
  case round =>
   clear H'
   try clear c1
   try clear p2
   try clear c3
   try clear c3b0
   try clear c3b1
   try clear c3b2
   obtain ⟨x13_1, rfl, HA, HK1, HB⟩ := hrel
   cases gk with
   | zero => exact absurd HA.out (by simp [precinctlaw18_sameList.l0])
   | succ k1 =>
    have H := HA.out
    clear HA
    simp only [precinctlaw18_sameList.l0] at H
    by_cases c4 : x13_1 < (l0.length : Int)
    ·rw [if_pos c4] at H
     have c4b0 : decide (x13_1 < (l0.length : Int)) = true := decide_eq_true c4
     clear c4
     by_cases c5 : 0 ≤ x13_1
     ·rw [if_pos c5] at H
      have c5b0 : decide (0 ≤ x13_1) = true := decide_eq_true c5
      clear c5
      by_cases c6 : x13_1 < (l0.length : Int)
      ·rw [if_pos c6] at H
       have c6b0 : decide (x13_1 < (l0.length : Int)) = true := decide_eq_true c6
       clear c6
       by_cases c7 : x13_1 < (l1.length : Int)
       ·rw [if_pos c7] at H
        have c7b0 : decide (x13_1 < (l1.length : Int)) = true := decide_eq_true c7
        clear c7
        replace H := Option.bind_eq_some_iff.mp H
        obtain ⟨t433, A80, H⟩ := H
        replace H : (if t433 = true then (precinctlaw18_sameList.l0 k1 l0 l1 (l0.length : Int) (wrap64 (x13_1 + 1))) else (some false)) = some r := H
        have A8 := Aside0.mk A80
        clear A80
        by_cases c9 : t433 = true
        ·subst c9
         have H1 : (precinctlaw18_sameList.l0 k1 l0 l1 (l0.length : Int) (wrap64 (x13_1 + 1))) = some r := by rw [if_pos rfl] at H; exact H
         clear H
         have H := H1
         clear H1
         have H' := Aside0.mk H
         clear H
         try go_wp2
         have n0_ := Aside0.mk (below_drew1 HB.out)
         clear HB
         have HB := n0_
         clear n0_
         have p431 : 0 ≤ (x13_1 : Int) := of_decide_eq_true (by first | (with_reducible assumption) | assumption)
         have q431 : x13_1 < (l0.length : Int) := of_decide_eq_true (by first | (with_reducible assumption) | assumption)
         obtain ⟨ad431, A431_3, c431_3, e431, hx431_0, hx431_1, hx431_2, hx431_3, hl431_3, hi431_3⟩ := at_T54 HR0.out x13_1 p431 q431
         have hw431_3 := hx431_3
         have hw431_2 := hx431_2
         have hw431_1 := hx431_1
         have hw431_0 := hx431_0
         cases e431
         replace hx431_0 := (HB.out.cell (World.block_lt_of_cell? w _ hx431_0)).trans hx431_0
         replace hx431_1 := (HB.out.cell (World.block_lt_of_cell? w _ hx431_1)).trans hx431_1
         replace hx431_2 := (HB.out.cell (World.block_lt_of_cell? w _ hx431_2)).trans hx431_2
         replace hx431_3 := (HB.out.cell (World.block_lt_of_cell? w _ hx431_3)).trans hx431_3
         have HR431_3 := Aside0.mk hi431_3
         have HC431_3 := Aside0.mk hl431_3
         clear hi431_3 hl431_3
         replace p431 := eq_true p431
         replace q431 := eq_true q431
         have p432 : 0 ≤ (x13_1 : Int) := of_decide_eq_true (by first | (with_reducible assumption) | assumption)
         have q432 : x13_1 < (l1.length : Int) := of_decide_eq_true (by first | (with_reducible assumption) | assumption)
         obtain ⟨ad432, A432_3, c432_3, e432, hx432_0, hx432_1, hx432_2, hx432_3, hl432_3, hi432_3⟩ := at_T57 HR1.out x13_1 p432 q432
         have hw432_3 := hx432_3
         have hw432_2 := hx432_2
         have hw432_1 := hx432_1
         have hw432_0 := hx432_0
         cases e432
         replace hx432_0 := (HB.out.cell (World.block_lt_of_cell? w _ hx432_0)).trans hx432_0
         replace hx432_1 := (HB.out.cell (World.block_lt_of_cell? w _ hx432_1)).trans hx432_1
         replace hx432_2 := (HB.out.cell (World.block_lt_of_cell? w _ hx432_2)).trans hx432_2
         replace hx432_3 := (HB.out.cell (World.block_lt_of_cell? w _ hx432_3)).trans hx432_3
         have HR432_3 := Aside0.mk hi432_3
         have HC432_3 := Aside0.mk hl432_3
         clear hi432_3 hl432_3
         replace p432 := eq_true p432
         replace q432 := eq_true q432
         refine start_ (n := 10) (S := fun w' => w'.cell? (ad431.add ((x13_1).toNat * 4)) = some (.int .i64 ((rd_T54 l0 x13_1).f0)) ∧ w'.cell? ⟨(ad431.add ((x13_1).toNat * 4)).block, (ad431.add ((x13_1).toNat * 4)).off + 1, none⟩ = some (.int .i64 ((rd_T54 l0 x13_1).f1)) ∧ w'.cell? ⟨(ad431.add ((x13_1).toNat * 4)).block, (ad431.add ((x13_1).toNat * 4)).off + 2, none⟩ = some (.string ((rd_T54 l0 x13_1).f2)) ∧ w'.cell? ⟨(ad431.add ((x13_1).toNat * 4)).block, (ad431.add ((x13_1).toNat * 4)).off + 3, none⟩ = some (.slice A431_3 ((rd_T54 l0 x13_1).f3).length c431_3) ∧ w'.cell? (ad432.add ((x13_1).toNat * 4)) = some (.int .i64 ((rd_T57 l1 x13_1).f0)) ∧ w'.cell? ⟨(ad432.add ((x13_1).toNat * 4)).block, (ad432.add ((x13_1).toNat * 4)).off + 1, none⟩ = some (.int .i64 ((rd_T57 l1 x13_1).f1)) ∧ w'.cell? ⟨(ad432.add ((x13_1).toNat * 4)).block, (ad432.add ((x13_1).toNat * 4)).off + 2, none⟩ = some (.string ((rd_T57 l1 x13_1).f2)) ∧ w'.cell? ⟨(ad432.add ((x13_1).toNat * 4)).block, (ad432.add ((x13_1).toNat * 4)).off + 3, none⟩ = some (.slice A432_3 ((rd_T57 l1 x13_1).f3).length c432_3)) (ds := []) #[false, false, false, false, false, false, false, false, false, false] (by kernel_rfl) rfl rfl ⟨((HB.out.cell (World.block_lt_of_cell? w _ hw431_0)).trans hw431_0), ((HB.out.cell (World.block_lt_of_cell? w _ hw431_1)).trans hw431_1), ((HB.out.cell (World.block_lt_of_cell? w _ hw431_2)).trans hw431_2), ((HB.out.cell (World.block_lt_of_cell? w _ hw431_3)).trans hw431_3), ((HB.out.cell (World.block_lt_of_cell? w _ hw432_0)).trans hw432_0), ((HB.out.cell (World.block_lt_of_cell? w _ hw432_1)).trans hw432_1), ((HB.out.cell (World.block_lt_of_cell? w _ hw432_2)).trans hw432_2), ((HB.out.cell (World.block_lt_of_cell? w _ hw432_3)).trans hw432_3)⟩ (fun hHeld => ?_); refine with_tabW precinctlaw18_sameList.tab6 precinctlaw18_sameList.bits6 (fun HT_ HW_ => ?_)
         generalize wr.drew = w10 at HB HR431_3 HR432_3 hx431_0 hx431_1 hx431_2 hx431_3 hx432_0 hx432_1 hx432_2 hx432_3 hHeld ⊢
         refine pure_ (i := 0) (N := some 16) (v := ?_) (a' := ?_) #[true, false, false, false, false, false, false, false, false, false] rfl rfl (any_of HT_.out (by kernel_rfl)) (fun _ _ _ h => h) (Or.inl ⟨by rfl, ?_⟩) ?_ ?_
         rotate_left
         ·intro w'
          go_simp
          with_reducible rfl
         rotate_left
         ·simp only [Act.put, List.setIfInBounds_toArray, List.set_cons_zero, List.set_cons_succ, i64_w, i32_w]
          rfl
         refine pure_ (i := 1) (N := some 17) (v := ?_) (a' := ?_) #[true, true, false, false, false, false, false, false, false, false] rfl rfl (any_of HT_.out (by kernel_rfl)) (fun _ _ _ h => h) (Or.inl ⟨by rfl, ?_⟩) ?_ ?_
         rotate_left
         ·intro w'
          go_simp
          with_reducible rfl
         rotate_left
         ·simp only [Act.put, List.setIfInBounds_toArray, List.set_cons_zero, List.set_cons_succ, i64_w, i32_w]
          rfl
         refine pure_ (i := 2) (N := some 18) (v := ?_) (a' := ?_) #[true, true, true, false, false, false, false, false, false, false] rfl rfl (any_of HT_.out (by kernel_rfl)) (fun _ _ _ h => h) (Or.inl ⟨by rfl, ?_⟩) ?_ ?_
         rotate_left
         ·intro w'
          go_simp
          with_reducible rfl
         rotate_left
         ·simp only [Act.put, List.setIfInBounds_toArray, List.set_cons_zero, List.set_cons_succ, i64_w, i32_w]
          rfl
         refine pure_ (i := 4) (N := some 20) (v := ?_) (a' := ?_) #[true, true, true, false, true, false, false, false, false, false] rfl rfl (any_of HT_.out (by kernel_rfl)) (fun _ _ _ h => h) (Or.inl ⟨by rfl, ?_⟩) ?_ ?_
         rotate_left
         ·intro w'
          go_simp
          with_reducible rfl
         rotate_left
         ·simp only [Act.put, List.setIfInBounds_toArray, List.set_cons_zero, List.set_cons_succ, i64_w, i32_w]
          rfl
         refine pure_ (i := 5) (N := some 21) (v := ?_) (a' := ?_) #[true, true, true, false, true, true, false, false, false, false] rfl rfl (any_of HT_.out (by kernel_rfl)) (fun _ _ _ h => h) (Or.inl ⟨by rfl, ?_⟩) ?_ ?_
         rotate_left
         ·intro w'
          go_simp
          with_reducible rfl
         rotate_left
         ·simp only [Act.put, List.setIfInBounds_toArray, List.set_cons_zero, List.set_cons_succ, i64_w, i32_w]
          rfl
         refine pure_ (i := 6) (N := some 22) (v := ?_) (a' := ?_) #[true, true, true, false, true, true, true, false, false, false] rfl rfl (any_of HT_.out (by kernel_rfl)) (fun _ _ _ h => h) (Or.inl ⟨by rfl, ?_⟩) ?_ ?_
         rotate_left
         ·intro w'
          go_simp
          with_reducible rfl
         rotate_left
         ·simp only [Act.put, List.setIfInBounds_toArray, List.set_cons_zero, List.set_cons_succ, i64_w, i32_w]
          rfl
         refine take_ (i := 3) (N := some 19) (v := ?_) (a' := ?_) #[true, true, true, true, true, true, true, false, false, false] rfl rfl (take_ofW HT_.out HW_.out (by kernel_rfl)) (fun _ _ _ h => h) (Or.inl ⟨by rfl, ?_⟩) hHeld ?_ ?_
         rotate_left
         ·rintro w' ⟨s0, s1, s2, s3, s4, s5, s6, s7⟩
          go_simp
          with_reducible rfl
         rotate_left
         ·simp only [Act.put, List.setIfInBounds_toArray, List.set_cons_zero, List.set_cons_succ, i64_w, i32_w]
          rfl
         refine take_ (i := 7) (N := some 23) (v := ?_) (a' := ?_) #[true, true, true, true, true, true, true, true, false, false] rfl rfl (take_ofW HT_.out HW_.out (by kernel_rfl)) (fun _ _ _ h => h) (Or.inl ⟨by rfl, ?_⟩) hHeld ?_ ?_
         rotate_left
         ·rintro w' ⟨s0, s1, s2, s3, s4, s5, s6, s7⟩
          go_simp
          with_reducible rfl
         rotate_left
         ·simp only [Act.put, List.setIfInBounds_toArray, List.set_cons_zero, List.set_cons_succ, i64_w, i32_w]
          rfl
         refine one_ (i := 8) (N := some 24) #[true, true, true, true, true, true, true, true, true, false] rfl rfl (one_of HT_.out (by kernel_rfl)) (by decide) (fun K hK => ?_)
         refine goes_ Try.func39 (by kernel_rfl) rfl #[.agg #[.int .i64 ((rd_T54 l0 x13_1).f0), .int .i64 ((rd_T54 l0 x13_1).f1), .string ((rd_T54 l0 x13_1).f2), .slice A431_3 ((rd_T54 l0 x13_1).f3).length c431_3], .agg #[.int .i64 ((rd_T57 l1 x13_1).f0), .int .i64 ((rd_T57 l1 x13_1).f1), .string ((rd_T57 l1 x13_1).f2), .slice A432_3 ((rd_T57 l1 x13_1).f3).length c432_3]] (by rfl) rfl rfl ag ?_
         with_reducible refine (precinctlaw18_same.calls k1 ((rd_T54 l0 x13_1).f0) ((rd_T54 l0 x13_1).f1) ((rd_T54 l0 x13_1).f2) _ _ ((rd_T54 l0 x13_1).f3) ((rd_T57 l1 x13_1).f0) ((rd_T57 l1 x13_1).f1) ((rd_T57 l1 x13_1).f2) _ _ ((rd_T57 l1 x13_1).f3) true _ ?side1 ?side2 ?side3 ?side4 A8.out).mono ?_
         (case side1 => repeat (first | exact (Kd.C_below HR431_3.out HB.out) | (with_reducible refine Kd.C_alloc ?_ _) | (with_reducible refine Kd.C_drewN ?_ _) | (with_reducible refine Kd.C_drew ?_)))
         (case side2 => exact HC431_3.out)
         (case side3 => repeat (first | exact (Kd.C_below HR432_3.out HB.out) | (with_reducible refine Kd.C_alloc ?_ _) | (with_reducible refine Kd.C_drewN ?_ _) | (with_reducible refine Kd.C_drew ?_)))
         (case side4 => exact HC432_3.out)
         rintro e w11 ⟨rfl, hb⟩
         refine ⟨_, rfl, ?_⟩
         have n0_ := Aside0.mk (below_step bb hb)
         clear HB
         have HB := n0_
         clear n0_
         (try clear hb)
         (try clear hb2)
         (try clear hk)
         (try clear hi)
         refine hK.out _ _ ⟨((HB.out.cell (World.block_lt_of_cell? w _ hw431_0)).trans hw431_0), ((HB.out.cell (World.block_lt_of_cell? w _ hw431_1)).trans hw431_1), ((HB.out.cell (World.block_lt_of_cell? w _ hw431_2)).trans hw431_2), ((HB.out.cell (World.block_lt_of_cell? w _ hw431_3)).trans hw431_3), ((HB.out.cell (World.block_lt_of_cell? w _ hw432_0)).trans hw432_0), ((HB.out.cell (World.block_lt_of_cell? w _ hw432_1)).trans hw432_1), ((HB.out.cell (World.block_lt_of_cell? w _ hw432_2)).trans hw432_2), ((HB.out.cell (World.block_lt_of_cell? w _ hw432_3)).trans hw432_3)⟩ (fun hHeld => ?_)
         clear hK K
         refine norm_ (a' := ?_) ?_ ?_
         rotate_left
         ·show Act.put _ (some 24) _ = _
          simp only [Act.put, List.setIfInBounds_toArray, List.set_cons_zero, List.set_cons_succ, i64_w, i32_w]
          rfl
         refine pure_ (i := 9) (N := some 25) (v := ?_) (a' := ?_) #[true, true, true, true, true, true, true, true, true, true] rfl rfl (any_of HT_.out (by kernel_rfl)) (fun _ _ _ h => h) (Or.inl ⟨by rfl, ?_⟩) ?_ ?_
         rotate_left
         ·intro w'
          go_simp
          with_reducible rfl
         rotate_left
         ·simp only [Act.put, List.setIfInBounds_toArray, List.set_cons_zero, List.set_cons_succ, i64_w, i32_w]
          rfl
         refine done_ (done_of HT_.out (by kernel_rfl)) ?_
         try go_wp2
         go_roundg k1
         case measure => have := HK1.out; omega
         case rel => exact ⟨(wrap64 (x13_1 + 1)), (by first | rfl | (simp; done) | (simp [*]; done)), H', ⟨by have := HK1.out; omega⟩, ⟨bb⟩⟩
        ·replace c9 := Bool.eq_false_iff.mpr c9
         subst c9
         have H1 : (some false) = some r := by rw [if_neg (show ¬ (false = true) by decide)] at H; exact H
         clear H
         have H := H1
         clear H1
         obtain rfl := Option.some.inj H
         try go_wp2
         have n0_ := Aside0.mk (below_drew1 HB.out)
         clear HB
         have HB := n0_
         clear n0_
         have p431 : 0 ≤ (x13_1 : Int) := of_decide_eq_true (by first | (with_reducible assumption) | assumption)
         have q431 : x13_1 < (l0.length : Int) := of_decide_eq_true (by first | (with_reducible assumption) | assumption)
         obtain ⟨ad431, A431_3, c431_3, e431, hx431_0, hx431_1, hx431_2, hx431_3, hl431_3, hi431_3⟩ := at_T54 HR0.out x13_1 p431 q431
         have hw431_3 := hx431_3
         have hw431_2 := hx431_2
         have hw431_1 := hx431_1
         have hw431_0 := hx431_0
         cases e431
         replace hx431_0 := (HB.out.cell (World.block_lt_of_cell? w _ hx431_0)).trans hx431_0
         replace hx431_1 := (HB.out.cell (World.block_lt_of_cell? w _ hx431_1)).trans hx431_1
         replace hx431_2 := (HB.out.cell (World.block_lt_of_cell? w _ hx431_2)).trans hx431_2
         replace hx431_3 := (HB.out.cell (World.block_lt_of_cell? w _ hx431_3)).trans hx431_3
         have HR431_3 := Aside0.mk hi431_3
         have HC431_3 := Aside0.mk hl431_3
         clear hi431_3 hl431_3
         replace p431 := eq_true p431
         replace q431 := eq_true q431
         have p432 : 0 ≤ (x13_1 : Int) := of_decide_eq_true (by first | (with_reducible assumption) | assumption)
         have q432 : x13_1 < (l1.length : Int) := of_decide_eq_true (by first | (with_reducible assumption) | assumption)
         obtain ⟨ad432, A432_3, c432_3, e432, hx432_0, hx432_1, hx432_2, hx432_3, hl432_3, hi432_3⟩ := at_T57 HR1.out x13_1 p432 q432
         have hw432_3 := hx432_3
         have hw432_2 := hx432_2
         have hw432_1 := hx432_1
         have hw432_0 := hx432_0
         cases e432
         replace hx432_0 := (HB.out.cell (World.block_lt_of_cell? w _ hx432_0)).trans hx432_0
         replace hx432_1 := (HB.out.cell (World.block_lt_of_cell? w _ hx432_1)).trans hx432_1
         replace hx432_2 := (HB.out.cell (World.block_lt_of_cell? w _ hx432_2)).trans hx432_2
         replace hx432_3 := (HB.out.cell (World.block_lt_of_cell? w _ hx432_3)).trans hx432_3
         have HR432_3 := Aside0.mk hi432_3
         have HC432_3 := Aside0.mk hl432_3
         clear hi432_3 hl432_3
         replace p432 := eq_true p432
         replace q432 := eq_true q432
         refine start_ (n := 10) (S := fun w' => w'.cell? (ad431.add ((x13_1).toNat * 4)) = some (.int .i64 ((rd_T54 l0 x13_1).f0)) ∧ w'.cell? ⟨(ad431.add ((x13_1).toNat * 4)).block, (ad431.add ((x13_1).toNat * 4)).off + 1, none⟩ = some (.int .i64 ((rd_T54 l0 x13_1).f1)) ∧ w'.cell? ⟨(ad431.add ((x13_1).toNat * 4)).block, (ad431.add ((x13_1).toNat * 4)).off + 2, none⟩ = some (.string ((rd_T54 l0 x13_1).f2)) ∧ w'.cell? ⟨(ad431.add ((x13_1).toNat * 4)).block, (ad431.add ((x13_1).toNat * 4)).off + 3, none⟩ = some (.slice A431_3 ((rd_T54 l0 x13_1).f3).length c431_3) ∧ w'.cell? (ad432.add ((x13_1).toNat * 4)) = some (.int .i64 ((rd_T57 l1 x13_1).f0)) ∧ w'.cell? ⟨(ad432.add ((x13_1).toNat * 4)).block, (ad432.add ((x13_1).toNat * 4)).off + 1, none⟩ = some (.int .i64 ((rd_T57 l1 x13_1).f1)) ∧ w'.cell? ⟨(ad432.add ((x13_1).toNat * 4)).block, (ad432.add ((x13_1).toNat * 4)).off + 2, none⟩ = some (.string ((rd_T57 l1 x13_1).f2)) ∧ w'.cell? ⟨(ad432.add ((x13_1).toNat * 4)).block, (ad432.add ((x13_1).toNat * 4)).off + 3, none⟩ = some (.slice A432_3 ((rd_T57 l1 x13_1).f3).length c432_3)) (ds := []) #[false, false, false, false, false, false, false, false, false, false] (by kernel_rfl) rfl rfl ⟨((HB.out.cell (World.block_lt_of_cell? w _ hw431_0)).trans hw431_0), ((HB.out.cell (World.block_lt_of_cell? w _ hw431_1)).trans hw431_1), ((HB.out.cell (World.block_lt_of_cell? w _ hw431_2)).trans hw431_2), ((HB.out.cell (World.block_lt_of_cell? w _ hw431_3)).trans hw431_3), ((HB.out.cell (World.block_lt_of_cell? w _ hw432_0)).trans hw432_0), ((HB.out.cell (World.block_lt_of_cell? w _ hw432_1)).trans hw432_1), ((HB.out.cell (World.block_lt_of_cell? w _ hw432_2)).trans hw432_2), ((HB.out.cell (World.block_lt_of_cell? w _ hw432_3)).trans hw432_3)⟩ (fun hHeld => ?_); refine with_tabW precinctlaw18_sameList.tab6 precinctlaw18_sameList.bits6 (fun HT_ HW_ => ?_)
         generalize wr.drew = w12 at HB HR431_3 HR432_3 hx431_0 hx431_1 hx431_2 hx431_3 hx432_0 hx432_1 hx432_2 hx432_3 hHeld ⊢
         refine pure_ (i := 0) (N := some 16) (v := ?_) (a' := ?_) #[true, false, false, false, false, false, false, false, false, false] rfl rfl (any_of HT_.out (by kernel_rfl)) (fun _ _ _ h => h) (Or.inl ⟨by rfl, ?_⟩) ?_ ?_
         rotate_left
         ·intro w'
          go_simp
          with_reducible rfl
         rotate_left
         ·simp only [Act.put, List.setIfInBounds_toArray, List.set_cons_zero, List.set_cons_succ, i64_w, i32_w]
          rfl
         refine pure_ (i := 1) (N := some 17) (v := ?_) (a' := ?_) #[true, true, false, false, false, false, false, false, false, false] rfl rfl (any_of HT_.out (by kernel_rfl)) (fun _ _ _ h => h) (Or.inl ⟨by rfl, ?_⟩) ?_ ?_
         rotate_left
         ·intro w'
          go_simp
          with_reducible rfl
         rotate_left
         ·simp only [Act.put, List.setIfInBounds_toArray, List.set_cons_zero, List.set_cons_succ, i64_w, i32_w]
          rfl
         refine pure_ (i := 2) (N := some 18) (v := ?_) (a' := ?_) #[true, true, true, false, false, false, false, false, false, false] rfl rfl (any_of HT_.out (by kernel_rfl)) (fun _ _ _ h => h) (Or.inl ⟨by rfl, ?_⟩) ?_ ?_
         rotate_left
         ·intro w'
          go_simp
          with_reducible rfl
         rotate_left
         ·simp only [Act.put, List.setIfInBounds_toArray, List.set_cons_zero, List.set_cons_succ, i64_w, i32_w]
          rfl
         refine pure_ (i := 4) (N := some 20) (v := ?_) (a' := ?_) #[true, true, true, false, true, false, false, false, false, false] rfl rfl (any_of HT_.out (by kernel_rfl)) (fun _ _ _ h => h) (Or.inl ⟨by rfl, ?_⟩) ?_ ?_
         rotate_left
         ·intro w'
          go_simp
          with_reducible rfl
         rotate_left
         ·simp only [Act.put, List.setIfInBounds_toArray, List.set_cons_zero, List.set_cons_succ, i64_w, i32_w]
          rfl
         refine pure_ (i := 5) (N := some 21) (v := ?_) (a' := ?_) #[true, true, true, false, true, true, false, false, false, false] rfl rfl (any_of HT_.out (by kernel_rfl)) (fun _ _ _ h => h) (Or.inl ⟨by rfl, ?_⟩) ?_ ?_
         rotate_left
         ·intro w'
          go_simp
          with_reducible rfl
         rotate_left
         ·simp only [Act.put, List.setIfInBounds_toArray, List.set_cons_zero, List.set_cons_succ, i64_w, i32_w]
          rfl
         refine pure_ (i := 6) (N := some 22) (v := ?_) (a' := ?_) #[true, true, true, false, true, true, true, false, false, false] rfl rfl (any_of HT_.out (by kernel_rfl)) (fun _ _ _ h => h) (Or.inl ⟨by rfl, ?_⟩) ?_ ?_
         rotate_left
         ·intro w'
          go_simp
          with_reducible rfl
         rotate_left
         ·simp only [Act.put, List.setIfInBounds_toArray, List.set_cons_zero, List.set_cons_succ, i64_w, i32_w]
          rfl
         refine take_ (i := 3) (N := some 19) (v := ?_) (a' := ?_) #[true, true, true, true, true, true, true, false, false, false] rfl rfl (take_ofW HT_.out HW_.out (by kernel_rfl)) (fun _ _ _ h => h) (Or.inl ⟨by rfl, ?_⟩) hHeld ?_ ?_
         rotate_left
         ·rintro w' ⟨s0, s1, s2, s3, s4, s5, s6, s7⟩
          go_simp
          with_reducible rfl
         rotate_left
         ·simp only [Act.put, List.setIfInBounds_toArray, List.set_cons_zero, List.set_cons_succ, i64_w, i32_w]
          rfl
         refine take_ (i := 7) (N := some 23) (v := ?_) (a' := ?_) #[true, true, true, true, true, true, true, true, false, false] rfl rfl (take_ofW HT_.out HW_.out (by kernel_rfl)) (fun _ _ _ h => h) (Or.inl ⟨by rfl, ?_⟩) hHeld ?_ ?_
         rotate_left
         ·rintro w' ⟨s0, s1, s2, s3, s4, s5, s6, s7⟩
          go_simp
          with_reducible rfl
         rotate_left
         ·simp only [Act.put, List.setIfInBounds_toArray, List.set_cons_zero, List.set_cons_succ, i64_w, i32_w]
          rfl
         refine one_ (i := 8) (N := some 24) #[true, true, true, true, true, true, true, true, true, false] rfl rfl (one_of HT_.out (by kernel_rfl)) (by decide) (fun K hK => ?_)
         refine goes_ Try.func39 (by kernel_rfl) rfl #[.agg #[.int .i64 ((rd_T54 l0 x13_1).f0), .int .i64 ((rd_T54 l0 x13_1).f1), .string ((rd_T54 l0 x13_1).f2), .slice A431_3 ((rd_T54 l0 x13_1).f3).length c431_3], .agg #[.int .i64 ((rd_T57 l1 x13_1).f0), .int .i64 ((rd_T57 l1 x13_1).f1), .string ((rd_T57 l1 x13_1).f2), .slice A432_3 ((rd_T57 l1 x13_1).f3).length c432_3]] (by rfl) rfl rfl ag ?_
         with_reducible refine (precinctlaw18_same.calls k1 ((rd_T54 l0 x13_1).f0) ((rd_T54 l0 x13_1).f1) ((rd_T54 l0 x13_1).f2) _ _ ((rd_T54 l0 x13_1).f3) ((rd_T57 l1 x13_1).f0) ((rd_T57 l1 x13_1).f1) ((rd_T57 l1 x13_1).f2) _ _ ((rd_T57 l1 x13_1).f3) false _ ?side1 ?side2 ?side3 ?side4 A8.out).mono ?_
         (case side1 => repeat (first | exact (Kd.C_below HR431_3.out HB.out) | (with_reducible refine Kd.C_alloc ?_ _) | (with_reducible refine Kd.C_drewN ?_ _) | (with_reducible refine Kd.C_drew ?_)))
         (case side2 => exact HC431_3.out)
         (case side3 => repeat (first | exact (Kd.C_below HR432_3.out HB.out) | (with_reducible refine Kd.C_alloc ?_ _) | (with_reducible refine Kd.C_drewN ?_ _) | (with_reducible refine Kd.C_drew ?_)))
         (case side4 => exact HC432_3.out)
         rintro e w13 ⟨rfl, hb⟩
         refine ⟨_, rfl, ?_⟩
         have n0_ := Aside0.mk (below_step bb hb)
         clear HB
         have HB := n0_
         clear n0_
         (try clear hb)
         (try clear hb2)
         (try clear hk)
         (try clear hi)
         refine hK.out _ _ ⟨((HB.out.cell (World.block_lt_of_cell? w _ hw431_0)).trans hw431_0), ((HB.out.cell (World.block_lt_of_cell? w _ hw431_1)).trans hw431_1), ((HB.out.cell (World.block_lt_of_cell? w _ hw431_2)).trans hw431_2), ((HB.out.cell (World.block_lt_of_cell? w _ hw431_3)).trans hw431_3), ((HB.out.cell (World.block_lt_of_cell? w _ hw432_0)).trans hw432_0), ((HB.out.cell (World.block_lt_of_cell? w _ hw432_1)).trans hw432_1), ((HB.out.cell (World.block_lt_of_cell? w _ hw432_2)).trans hw432_2), ((HB.out.cell (World.block_lt_of_cell? w _ hw432_3)).trans hw432_3)⟩ (fun hHeld => ?_)
         clear hK K
         refine norm_ (a' := ?_) ?_ ?_
         rotate_left
         ·show Act.put _ (some 24) _ = _
          simp only [Act.put, List.setIfInBounds_toArray, List.set_cons_zero, List.set_cons_succ, i64_w, i32_w]
          rfl
         refine pure_ (i := 9) (N := some 25) (v := ?_) (a' := ?_) #[true, true, true, true, true, true, true, true, true, true] rfl rfl (any_of HT_.out (by kernel_rfl)) (fun _ _ _ h => h) (Or.inl ⟨by rfl, ?_⟩) ?_ ?_
         rotate_left
         ·intro w'
          go_simp
          with_reducible rfl
         rotate_left
         ·simp only [Act.put, List.setIfInBounds_toArray, List.set_cons_zero, List.set_cons_succ, i64_w, i32_w]
          rfl
         refine done_ (done_of HT_.out (by kernel_rfl)) ?_
         try go_wp2
         go_ret
         exact ⟨by first | rfl | (simp [errW_none, errW_some] <;> rfl) | (simp [*, errW_none, errW_some] <;> rfl), bb⟩
       ·rw [if_neg c7] at H
        exact absurd H (by simp)
      ·rw [if_neg c6] at H
       exact absurd H (by simp)
     ·rw [if_neg c5] at H
      exact absurd H (by simp)
    ·rw [if_neg c4] at H
     have c4b0 : decide (x13_1 < (l0.length : Int)) = false := decide_eq_false c4
     clear c4
     obtain rfl := Option.some.inj H
     go_wp2
     go_ret
     exact ⟨by first | rfl | (simp [errW_none, errW_some] <;> rfl) | (simp [*, errW_none, errW_some] <;> rfl), bb⟩
 ·rw [if_neg c3] at H
  have c3b0 : ((l0.length : Int) == (l1.length : Int)) = false := beq_eq_false_iff_ne.mpr c3
  have c3b1 : ((l0.length : Int) != (l1.length : Int)) = true := bne_iff_ne.mpr c3
  have c3b2 : (l0.length == l1.length) = false := by first | simpa using c3 | (simp at c3 ⊢; omega)
  obtain rfl := Option.some.inj H
  go_enter Try.func38, Try.ntmps38
  go_wp2
  go_ret
  exact ⟨by first | rfl | (simp [errW_none, errW_some] <;> rfl) | (simp [*, errW_none, errW_some] <;> rfl), bb⟩

end Go.Proofs.Ytjicfkmpgogppaa.PO
