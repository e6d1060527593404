-- printed by a program of this session out of the translation; see NOTES.md
import Derived.Test.YtjicfkmpgogppaaPGx0
import Derived.Test.YtjicfkmpgogppaaPGx10
import Derived.Test.YtjicfkmpgogppaaPGx12
import Derived.Test.YtjicfkmpgogppaaPGx13
import Derived.Test.YtjicfkmpgogppaaPGx15
import Derived.Test.YtjicfkmpgogppaaRb
namespace Go.Proofs.Ytjicfkmpgogppaa.PG
open Go.RowKit Go.Proofs.YtjicfkmpgogppaaW.PrintWords Go.Proofs.YtjicfkmpgogppaaW.PrintLast Go.Proofs.YtjicfkmpgogppaaW.PrintMore Go.Proofs.YtjicfkmpgogppaaRb
attribute [local go_sem] max2_int min2_int max_two min_two max_three min_three max_four min_four   -- for this text's walks alone
set_option linter.unusedVariables false
set_option linter.unusedSimpArgs false

/-! ### precinctref12_Check: function 16 -/
mutual
def precinctref12_Check.j0 : Nat → Int → Bool → ByteArray → List (S125) → Option (Int × Int)
 | 0, _, _, _, _ => none
 | k + 1, x5, x25, x174000, x174001 => if x25 = true then (some ((-1), 31)) else (precinctref12_Check.l0 k x5 0 x174000 x174001)
def precinctref12_Check.l0 : Nat → Int → Int → ByteArray → List (S125) → Option (Int × Int)
 | 0, _, _, _, _ => none
 | k + 1, x5, x6, x174000, x174001 => if x6 < x5 then ((precinctref12_one.f k x174000 x174001 x6).bind fun t175 => (if t175 = 0 then (precinctref12_Check.l0 k x5 (wrap64 (x6 + 1)) x174000 x174001) else (some (x6, t175)))) else (precinctref12_Check.l1 k x5 0 x174000 x174001)
def precinctref12_Check.l1 : Nat → Int → Int → ByteArray → List (S125) → Option (Int × Int)
 | 0, _, _, _, _ => none
 | k + 1, x5, x8, x174000, x174001 => if x8 < x5 then ((precinctref12_deps.f k x174000 x174001 x8).bind fun t176 => (if t176 = true then (precinctref12_Check.l1 k x5 (wrap64 (x8 + 1)) x174000 x174001) else (some (x8, 32)))) else (precinctref12_Check.l2 k x5 0 x174000 x174001)
def precinctref12_Check.l2 : Nat → Int → Int → ByteArray → List (S125) → Option (Int × Int)
 | 0, _, _, _, _ => none
 | k + 1, x5, x10, x174000, x174001 => if x10 < x5 then ((precinctref12_Behind.f k x174000 x174001 x10 x10 x5).bind fun t177 => (if t177 = true then (some (x10, 33)) else (precinctref12_Check.l2 k x5 (wrap64 (x10 + 1)) x174000 x174001))) else (some (0, 0))
end
def precinctref12_Check.f (k : Nat) (a0_0 : ByteArray) (l0_1 : List (S125)) : Option (Int × Int) := (precinctref11_Named.f k a0_0).bind fun t174 => (if t174 = true then (if (l0_1.length : Int) < 1 then (precinctref12_Check.j0 k (l0_1.length : Int) true a0_0 l0_1) else (precinctref12_Check.j0 k (l0_1.length : Int) (decide ((l0_1.length : Int) > 12)) a0_0 l0_1)) else (some ((-1), 30)))
theorem precinctref12_Check.mono_l : ∀ k, (∀ y0 y1 y2 y3, LeO (precinctref12_Check.j0 k y0 y1 y2 y3) (precinctref12_Check.j0 (k + 1) y0 y1 y2 y3)) ∧ (∀ y0 y1 y2 y3, LeO (precinctref12_Check.l0 k y0 y1 y2 y3) (precinctref12_Check.l0 (k + 1) y0 y1 y2 y3)) ∧ (∀ y0 y1 y2 y3, LeO (precinctref12_Check.l1 k y0 y1 y2 y3) (precinctref12_Check.l1 (k + 1) y0 y1 y2 y3)) ∧ (∀ y0 y1 y2 y3, LeO (precinctref12_Check.l2 k y0 y1 y2 y3) (precinctref12_Check.l2 (k + 1) y0 y1 y2 y3))
 | 0 => ⟨fun _ _ _ _ r h => by simp [precinctref12_Check.j0] at h, fun _ _ _ _ r h => by simp [precinctref12_Check.l0] at h, fun _ _ _ _ r h => by simp [precinctref12_Check.l1] at h, fun _ _ _ _ r h => by simp [precinctref12_Check.l2] at h⟩
 | k + 1 => by
  obtain ⟨ih0, ih1, ih2, ih3⟩ := precinctref12_Check.mono_l k
  refine ⟨?_, ?_, ?_, ?_⟩
  ·intro y0 y1 y2 y3
   unfold precinctref12_Check.j0
   repeat' first
   | (with_reducible exact ih0 _ _ _ _)
   | (with_reducible exact ih1 _ _ _ _)
   | (with_reducible exact ih2 _ _ _ _)
   | (with_reducible exact ih3 _ _ _ _)
   | (with_reducible exact precinctref11_Named.mono _ _)
   | (with_reducible exact precinctref12_Behind.mono _ _ _ _ _ _)
   | (with_reducible exact precinctref12_deps.mono _ _ _ _)
   | (with_reducible exact precinctref12_one.mono _ _ _ _)
   | (with_reducible exact LeO.refl _)
   | (with_reducible exact LeO.none _)
   | (with_reducible refine LeO.ite ?_ ?_)
   | (with_reducible refine LeO.bind ?_ (fun _ => ?_))
   | exact ih0 _ _ _ _
   | exact ih1 _ _ _ _
   | exact ih2 _ _ _ _
   | exact ih3 _ _ _ _
   | exact precinctref11_Named.mono _ _
   | exact precinctref12_Behind.mono _ _ _ _ _ _
   | exact precinctref12_deps.mono _ _ _ _
   | exact precinctref12_one.mono _ _ _ _
   | exact LeO.none _
   | refine LeO.ite ?_ ?_
   | refine LeO.bind ?_ (fun _ => ?_)
  ·intro y0 y1 y2 y3
   unfold precinctref12_Check.l0
   repeat' first
   | (with_reducible exact ih0 _ _ _ _)
   | (with_reducible exact ih1 _ _ _ _)
   | (with_reducible exact ih2 _ _ _ _)
   | (with_reducible exact ih3 _ _ _ _)
   | (with_reducible exact precinctref11_Named.mono _ _)
   | (with_reducible exact precinctref12_Behind.mono _ _ _ _ _ _)
   | (with_reducible exact precinctref12_deps.mono _ _ _ _)
   | (with_reducible exact precinctref12_one.mono _ _ _ _)
   | (with_reducible exact LeO.refl _)
   | (with_reducible exact LeO.none _)
   | (with_reducible refine LeO.ite ?_ ?_)
   | (with_reducible refine LeO.bind ?_ (fun _ => ?_))
   | exact ih0 _ _ _ _
   | exact ih1 _ _ _ _
   | exact ih2 _ _ _ _
   | exact ih3 _ _ _ _
   | exact precinctref11_Named.mono _ _
   | exact precinctref12_Behind.mono _ _ _ _ _ _
   | exact precinctref12_deps.mono _ _ _ _
   | exact precinctref12_one.mono _ _ _ _
   | exact LeO.none _
   | refine LeO.ite ?_ ?_
   | refine LeO.bind ?_ (fun _ => ?_)
  ·intro y0 y1 y2 y3
   unfold precinctref12_Check.l1
   repeat' first
   | (with_reducible exact ih0 _ _ _ _)
   | (with_reducible exact ih1 _ _ _ _)
   | (with_reducible exact ih2 _ _ _ _)
   | (with_reducible exact ih3 _ _ _ _)
   | (with_reducible exact precinctref11_Named.mono _ _)
   | (with_reducible exact precinctref12_Behind.mono _ _ _ _ _ _)
   | (with_reducible exact precinctref12_deps.mono _ _ _ _)
   | (with_reducible exact precinctref12_one.mono _ _ _ _)
   | (with_reducible exact LeO.refl _)
   | (with_reducible exact LeO.none _)
   | (with_reducible refine LeO.ite ?_ ?_)
   | (with_reducible refine LeO.bind ?_ (fun _ => ?_))
   | exact ih0 _ _ _ _
   | exact ih1 _ _ _ _
   | exact ih2 _ _ _ _
   | exact ih3 _ _ _ _
   | exact precinctref11_Named.mono _ _
   | exact precinctref12_Behind.mono _ _ _ _ _ _
   | exact precinctref12_deps.mono _ _ _ _
   | exact precinctref12_one.mono _ _ _ _
   | exact LeO.none _
   | refine LeO.ite ?_ ?_
   | refine LeO.bind ?_ (fun _ => ?_)
  ·intro y0 y1 y2 y3
   unfold precinctref12_Check.l2
   repeat' first
   | (with_reducible exact ih0 _ _ _ _)
   | (with_reducible exact ih1 _ _ _ _)
   | (with_reducible exact ih2 _ _ _ _)
   | (with_reducible exact ih3 _ _ _ _)
   | (with_reducible exact precinctref11_Named.mono _ _)
   | (with_reducible exact precinctref12_Behind.mono _ _ _ _ _ _)
   | (with_reducible exact precinctref12_deps.mono _ _ _ _)
   | (with_reducible exact precinctref12_one.mono _ _ _ _)
   | (with_reducible exact LeO.refl _)
   | (with_reducible exact LeO.none _)
   | (with_reducible refine LeO.ite ?_ ?_)
   | (with_reducible refine LeO.bind ?_ (fun _ => ?_))
   | exact ih0 _ _ _ _
   | exact ih1 _ _ _ _
   | exact ih2 _ _ _ _
   | exact ih3 _ _ _ _
   | exact precinctref11_Named.mono _ _
   | exact precinctref12_Behind.mono _ _ _ _ _ _
   | exact precinctref12_deps.mono _ _ _ _
   | exact precinctref12_one.mono _ _ _ _
   | exact LeO.none _
   | refine LeO.ite ?_ ?_
   | refine LeO.bind ?_ (fun _ => ?_)
theorem precinctref12_Check.mono : ∀ a0 a1 k, LeO (precinctref12_Check.f k a0 a1) (precinctref12_Check.f (k + 1) a0 a1) := by
 intro a0 a1 k
 obtain ⟨ih0, ih1, ih2, ih3⟩ := precinctref12_Check.mono_l k
 unfold precinctref12_Check.f
 repeat' first
   | (with_reducible exact ih0 _ _ _ _)
   | (with_reducible exact ih1 _ _ _ _)
   | (with_reducible exact ih2 _ _ _ _)
   | (with_reducible exact ih3 _ _ _ _)
   | (with_reducible exact precinctref11_Named.mono _ _)
   | (with_reducible exact precinctref12_Behind.mono _ _ _ _ _ _)
   | (with_reducible exact precinctref12_deps.mono _ _ _ _)
   | (with_reducible exact precinctref12_one.mono _ _ _ _)
   | (with_reducible exact LeO.refl _)
   | (with_reducible exact LeO.none _)
   | (with_reducible refine LeO.ite ?_ ?_)
   | (with_reducible refine LeO.bind ?_ (fun _ => ?_))
   | exact ih0 _ _ _ _
   | exact ih1 _ _ _ _
   | exact ih2 _ _ _ _
   | exact ih3 _ _ _ _
   | exact precinctref11_Named.mono _ _
   | exact precinctref12_Behind.mono _ _ _ _ _ _
   | exact precinctref12_deps.mono _ _ _ _
   | exact precinctref12_one.mono _ _ _ _
   | exact LeO.none _
   | refine LeO.ite ?_ ?_
   | refine LeO.bind ?_ (fun _ => ?_)
set_option maxHeartbeats 8000000 in
set_option maxRecDepth 100000 in
theorem precinctref12_Check.calls (k : Nat) (a0_0 : ByteArray) (A0_1 : Option Addr) (c0_1 : Nat) (l0_1 : List (S125)) (r1 : Int) (r2 : Int) (w : World) (hr0_1 : Kd.C k125 w A0_1 l0_1.length l0_1) (hc0_1 : l0_1.length ≤ c0_1) (h : precinctref12_Check.f k a0_0 l0_1 = some (r1, r2)) :
  Calls Try.prog 16 #[.agg #[.string a0_0, .slice A0_1 l0_1.length c0_1]] w fun e w' => e = .returned (.tuple #[.int .i64 r1, .int .i64 r2]) ∧ Below w.heap.size w w' := by
 have hu30 := Try.underlying30
 have HR0_1 := Aside0.mk hr0_1
 have HC0_1 := Aside0.mk hc0_1
 clear hr0_1 hc0_1
 have HB := Aside0.mk (Below.refl w.heap.size w)
 have H : ((precinctref11_Named.f k a0_0).bind fun t174 => (if t174 = true then (if (l0_1.length : Int) < 1 then (precinctref12_Check.j0 k (l0_1.length : Int) true a0_0 l0_1) else (precinctref12_Check.j0 k (l0_1.length : Int) (decide ((l0_1.length : Int) > 12)) a0_0 l0_1)) else (some ((-1), 30)))) = some (r1, r2) := h
 clear h
 replace H := Option.bind_eq_some_iff.mp H
 obtain ⟨t174, A20, H⟩ := H
 replace H : (if t174 = true then (if (l0_1.length : Int) < 1 then (precinctref12_Check.j0 k (l0_1.length : Int) true a0_0 l0_1) else (precinctref12_Check.j0 k (l0_1.length : Int) (decide ((l0_1.length : Int) > 12)) a0_0 l0_1)) else (some ((-1), 30))) = some (r1, r2) := H
 have A2 := Aside0.mk A20
 clear A20
 by_cases c3 : t174 = true
 ·subst c3
  have H1 : (if (l0_1.length : Int) < 1 then (precinctref12_Check.j0 k (l0_1.length : Int) true a0_0 l0_1) else (precinctref12_Check.j0 k (l0_1.length : Int) (decide ((l0_1.length : Int) > 12)) a0_0 l0_1)) = some (r1, r2) := by rw [if_pos rfl] at H; exact H
  clear H
  have H := H1
  clear H1
  have HC4 := Aside0.mk H
  clear H
  go_enter Try.func16, Try.ntmps16
  go_upto_region 5 with (first | ((with_reducible refine gate_dst (N := 1) rfl ?_); refine box_event ?hg (N := 1) ?hd (cs := #[.string a0_0, .slice A0_1 l0_1.length c0_1]) (t := 30) ?hr ?_; (case hd => rfl); (case hg => rfl); (case hr => first | (go_simp; done) | (go_simp; rfl)); intro gb173 hg w5 hbox hb; have n0_ := Aside0.mk (below_step bb hb); have n1_ := Aside0.mk (hbox); have n2_ := Aside0.mk ((by rw [hg]; exact (below_size bb) : w.heap.size ≤ gb173)); have n3_ := Aside0.mk ((by rw [hg]; exact (below_size bb) : w.heap.size ≤ gb173)); clear HB; have HB := n0_; have BK173 := n1_; have GW173 := n2_; have GE173 := n3_; clear n0_ n1_ n2_ n3_; clear hb hbox hg; have hcz6_0 : w5.cell? ⟨gb173, 0, none⟩ = some (.string a0_0) := (blk_cell BK173.out 0).trans rfl; have hcz6_1 : w5.cell? ⟨gb173, 1, none⟩ = some (.slice A0_1 l0_1.length c0_1) := (blk_cell BK173.out 1).trans rfl; have hfz6_0 := blk_frozen BK173.out 0; have hfz6_1 := blk_frozen BK173.out 1) | ((with_reducible refine gate_callee (f := 54) rfl ?_); refine goesL_ (some 14) rfl rfl Try.func54 (by kernel_rfl) rfl #[.string a0_0] rfl ag ?_; (with_reducible refine (precinctref11_Named.calls k a0_0 true _ A2.out).mono ?_); rintro e w' ⟨rfl, ⟨nd, rfl⟩⟩; refine ⟨_, rfl, ?_⟩))
  (try simp only [Act.put, List.setIfInBounds_toArray, List.set_cons_zero, List.set_cons_succ])
  go_cut [25] (fun v25 wc => ∃ (kq : Nat) (x25_3 : Bool), v25 = .bool x25_3 ∧ Aside0 (precinctref12_Check.j0 kq (l0_1.length : Int) x25_3 a0_0 l0_1 = some (r1, r2)) ∧ Aside0 (kq ≤ k) ∧ Aside0 (wc.heap[gb173]? = some (.cells #[.string a0_0, (.slice A0_1 l0_1.length c0_1)] 30 (0, 0))) ∧ Aside0 (Below w.heap.size w wc))
  case first =>
   have H := HC4.out
   clear HC4
   by_cases c7 : (l0_1.length : Int) < 1
   ·rw [if_pos c7] at H
    have c7b0 : decide ((l0_1.length : Int) < 1) = true := decide_eq_true c7
    have c7b1 : decide (l0_1.length < 1) = true := decide_eq_true (by omega)
    clear c7
    (first | rw [c7b0] | (simp only [i64_w, i32_w]; rw [c7b0]) | skip)
    have H' := Aside0.mk H
    clear H
    go_wp2
    go_meet
    case rel => exact ⟨_, (true), (by first | rfl | (simp; done) | (simp [*]; done)), H', ⟨by first | omega | exact Nat.le_refl _⟩, ⟨by (with_reducible repeat (first | refine blk_drewN ?_ _ | refine blk_drew ?_ | refine blk_alloc ?_ _)); exact BK173.out⟩, ⟨bb⟩⟩
   ·rw [if_neg c7] at H
    have c7b0 : decide ((l0_1.length : Int) < 1) = false := decide_eq_false c7
    have c7b1 : decide (l0_1.length < 1) = false := decide_eq_false (by omega)
    clear c7
    (first | rw [c7b0] | (simp only [i64_w, i32_w]; rw [c7b0]) | skip)
    have H' := Aside0.mk H
    clear H
    go_wp2
    go_meet
    case rel => exact ⟨_, (decide ((l0_1.length : Int) > 12)), (by first | rfl | (simp; done) | (simp [*]; done)), H', ⟨by first | omega | exact Nat.le_refl _⟩, ⟨by (with_reducible repeat (first | refine blk_drewN ?_ _ | refine blk_drew ?_ | refine blk_alloc ?_ _)); exact BK173.out⟩, ⟨bb⟩⟩
  case rest =>
   clear HC4
   try clear c1
   try clear p2
   try clear c3
   try clear c5
   try clear c7
   try clear c7b0
   try clear c7b1
   try clear hcz6_0
   try clear hcz6_1
   try clear hfz6_0
   try clear hfz6_1
   obtain ⟨kq, x25_3, rfl, HA, HJ3, BK173, HB⟩ := hcut
   cases kq with
   | zero => exact absurd HA.out (by simp [precinctref12_Check.j0])
   | succ kj3 =>
    have H := HA.out
    clear HA
    simp only [precinctref12_Check.j0] at H
    by_cases c8 : x25_3 = true
    ·subst c8
     have H1 : (some ((-1), 31)) = some (r1, r2) := by rw [if_pos rfl] at H; exact H
     clear H
     have H := H1
     clear H1
     simp only [Option.some.injEq, Prod.mk.injEq] at H
     obtain ⟨rfl, rfl⟩ := H
     go_wp2
     go_ret2
     exact ⟨by first | rfl | (simp [errW_none, errW_some] <;> rfl) | (simp [*, errW_none, errW_some] <;> rfl), bb⟩
    ·replace c8 := Bool.eq_false_iff.mpr c8
     subst c8
     have H1 : (precinctref12_Check.l0 kj3 (l0_1.length : Int) 0 a0_0 l0_1) = some (r1, r2) := by rw [if_neg (show ¬ (false = true) by decide)] at H; exact H
     clear H
     have H := H1
     clear H1
     have H' := Aside0.mk H
     clear H
     go_wp2
     go_loopg [6] kj3 (fun kq v6 w' => ∃ (x6_2 : Int), v6 = .int .i64 x6_2 ∧ Aside0 (precinctref12_Check.l0 kq (l0_1.length : Int) x6_2 a0_0 l0_1 = some (r1, r2)) ∧ Aside0 (kq ≤ kj3) ∧ Aside0 (w'.heap[gb173]? = some (.cells #[.string a0_0, (.slice A0_1 l0_1.length c0_1)] 30 (0, 0))) ∧ Aside0 (Below w.heap.size w w'))
     case atStart => exact ⟨(0), (by first | rfl | (simp; done) | (simp [*]; done)), H', ⟨Nat.le_refl _⟩, ⟨by (with_reducible repeat (first | refine blk_drewN ?_ _ | refine blk_drew ?_ | refine blk_alloc ?_ _)); exact BK173.out⟩, ⟨bb⟩⟩
     case round =>
      clear H'
      try clear c1
      try clear p2
      try clear c3
      try clear c5
      try clear c7
      try clear c7b0
      try clear c7b1
      try clear c8
      try clear hcz6_0
      try clear hcz6_1
      try clear hfz6_0
      try clear hfz6_1
      try clear p2
      obtain ⟨x6_2, rfl, HA, HK2, BK173, HB⟩ := hrel
      cases gk with
      | zero => exact absurd HA.out (by simp [precinctref12_Check.l0])
      | succ k2 =>
       have H := HA.out
       clear HA
       simp only [precinctref12_Check.l0] at H
       by_cases c9 : x6_2 < (l0_1.length : Int)
       ·rw [if_pos c9] at H
        have c9b0 : decide (x6_2 < (l0_1.length : Int)) = true := decide_eq_true c9
        clear c9
        replace H := Option.bind_eq_some_iff.mp H
        obtain ⟨t175, A100, H⟩ := H
        replace H : (if t175 = 0 then (precinctref12_Check.l0 k2 (l0_1.length : Int) (wrap64 (x6_2 + 1)) a0_0 l0_1) else (some (x6_2, t175))) = some (r1, r2) := H
        have A10 := Aside0.mk A100
        clear A100
        by_cases c11 : t175 = 0
        ·rw [if_pos c11] at H
         have c11b0 : (t175 == 0) = true := beq_iff_eq.mpr c11
         have c11b1 : (t175 != 0) = false := bne_eq_false_iff_eq.mpr c11
         clear c11
         have H' := Aside0.mk H
         clear H
         have hcz12_0 : wr.cell? ⟨gb173, 0, none⟩ = some (.string a0_0) := (blk_cell BK173.out 0).trans rfl
         have hcz12_1 : wr.cell? ⟨gb173, 1, none⟩ = some (.slice A0_1 l0_1.length c0_1) := (blk_cell BK173.out 1).trans rfl
         have hfz12_0 := blk_frozen BK173.out 0
         have hfz12_1 := blk_frozen BK173.out 1
         go_wp2_with (first | ((with_reducible refine gate_callee (f := 55) rfl ?_); refine goesL_ (some 33) rfl rfl Try.func55 (by kernel_rfl) rfl #[.agg #[.string a0_0, .slice A0_1 l0_1.length c0_1], .int .i64 x6_2] rfl ag ?_; (with_reducible refine (precinctref12_one.calls k2 a0_0 _ _ l0_1 x6_2 t175 _ ?side1 ?side2 A10.out).mono ?_); (case side1 => repeat (first | exact (Kd.C_below HR0_1.out HB.out) | (with_reducible refine Kd.C_alloc ?_ _) | (with_reducible refine Kd.C_drewN ?_ _) | (with_reducible refine Kd.C_drew ?_))); (case side2 => exact HC0_1.out); rintro e w13 ⟨rfl, hb⟩; refine ⟨_, rfl, ?_⟩; have n0_ := Aside0.mk (blk_below (rb BK173.out) hb); have n1_ := Aside0.mk (below_step bb hb); clear BK173; clear HB; have BK173 := n0_; have HB := n1_; clear n0_ n1_; (try clear hb); (try clear hb2); (try clear hk); (try clear hi)))
         go_roundg k2
         case measure => have := HJ3.out; have := HK2.out; omega
         case rel => exact ⟨(wrap64 (x6_2 + 1)), (by first | rfl | (simp; done) | (simp [*]; done)), H', ⟨by have := HJ3.out; have := HK2.out; omega⟩, ⟨by (with_reducible repeat (first | refine blk_drewN ?_ _ | refine blk_drew ?_ | refine blk_alloc ?_ _)); exact BK173.out⟩, ⟨bb⟩⟩
        ·rw [if_neg c11] at H
         have c11b0 : (t175 == 0) = false := beq_eq_false_iff_ne.mpr c11
         have c11b1 : (t175 != 0) = true := bne_iff_ne.mpr c11
         simp only [Option.some.injEq, Prod.mk.injEq] at H
         obtain ⟨rfl, rfl⟩ := H
         have hcz14_0 : wr.cell? ⟨gb173, 0, none⟩ = some (.string a0_0) := (blk_cell BK173.out 0).trans rfl
         have hcz14_1 : wr.cell? ⟨gb173, 1, none⟩ = some (.slice A0_1 l0_1.length c0_1) := (blk_cell BK173.out 1).trans rfl
         have hfz14_0 := blk_frozen BK173.out 0
         have hfz14_1 := blk_frozen BK173.out 1
         go_wp2_with (first | ((with_reducible refine gate_callee (f := 55) rfl ?_); refine goesL_ (some 33) rfl rfl Try.func55 (by kernel_rfl) rfl #[.agg #[.string a0_0, .slice A0_1 l0_1.length c0_1], .int .i64 x6_2] rfl ag ?_; (with_reducible refine (precinctref12_one.calls k2 a0_0 _ _ l0_1 x6_2 t175 _ ?side1 ?side2 A10.out).mono ?_); (case side1 => repeat (first | exact (Kd.C_below HR0_1.out HB.out) | (with_reducible refine Kd.C_alloc ?_ _) | (with_reducible refine Kd.C_drewN ?_ _) | (with_reducible refine Kd.C_drew ?_))); (case side2 => exact HC0_1.out); rintro e w15 ⟨rfl, hb⟩; refine ⟨_, rfl, ?_⟩; have n0_ := Aside0.mk (blk_below (rb BK173.out) hb); have n1_ := Aside0.mk (below_step bb hb); clear BK173; clear HB; have BK173 := n0_; have HB := n1_; clear n0_ n1_; (try clear hb); (try clear hb2); (try clear hk); (try clear hi)))
         go_ret2
         exact ⟨by first | rfl | (simp [errW_none, errW_some] <;> rfl) | (simp [*, errW_none, errW_some] <;> rfl), bb⟩
       ·rw [if_neg c9] at H
        have c9b0 : decide (x6_2 < (l0_1.length : Int)) = false := decide_eq_false c9
        clear c9
        have H' := Aside0.mk H
        clear H
        go_wp2
        go_loopg [8] k2 (fun kq v8 w' => ∃ (x8_3 : Int), v8 = .int .i64 x8_3 ∧ Aside0 (precinctref12_Check.l1 kq (l0_1.length : Int) x8_3 a0_0 l0_1 = some (r1, r2)) ∧ Aside0 (kq ≤ k2) ∧ Aside0 (w'.heap[gb173]? = some (.cells #[.string a0_0, (.slice A0_1 l0_1.length c0_1)] 30 (0, 0))) ∧ Aside0 (Below w.heap.size w w'))
        case atStart => exact ⟨(0), (by first | rfl | (simp; done) | (simp [*]; done)), H', ⟨Nat.le_refl _⟩, ⟨by (with_reducible repeat (first | refine blk_drewN ?_ _ | refine blk_drew ?_ | refine blk_alloc ?_ _)); exact BK173.out⟩, ⟨bb⟩⟩
        case round =>
         clear H'
         try clear c1
         try clear p2
         try clear c3
         try clear c5
         try clear p6
         try clear c7
         try clear c7b0
         try clear c7b1
         try clear c8
         try clear c9
         try clear c9b0
         try clear c11
         try clear c11b0
         try clear c11b1
         try clear hcz12_0
         try clear hcz12_1
         try clear hcz14_0
         try clear hcz14_1
         try clear hcz6_0
         try clear hcz6_1
         try clear hfz12_0
         try clear hfz12_1
         try clear hfz14_0
         try clear hfz14_1
         try clear hfz6_0
         try clear hfz6_1
         try clear p2
         obtain ⟨x8_3, rfl, HA, HK3, BK173, HB⟩ := hrel
         cases gk with
         | zero => exact absurd HA.out (by simp [precinctref12_Check.l1])
         | succ k3 =>
          have H := HA.out
          clear HA
          simp only [precinctref12_Check.l1] at H
          by_cases c16 : x8_3 < (l0_1.length : Int)
          ·rw [if_pos c16] at H
           have c16b0 : decide (x8_3 < (l0_1.length : Int)) = true := decide_eq_true c16
           clear c16
           replace H := Option.bind_eq_some_iff.mp H
           obtain ⟨t176, A170, H⟩ := H
           replace H : (if t176 = true then (precinctref12_Check.l1 k3 (l0_1.length : Int) (wrap64 (x8_3 + 1)) a0_0 l0_1) else (some (x8_3, 32))) = some (r1, r2) := H
           have A17 := Aside0.mk A170
           clear A170
           by_cases c18 : t176 = true
           ·subst c18
            have H1 : (precinctref12_Check.l1 k3 (l0_1.length : Int) (wrap64 (x8_3 + 1)) a0_0 l0_1) = some (r1, r2) := by rw [if_pos rfl] at H; exact H
            clear H
            have H := H1
            clear H1
            have H' := Aside0.mk H
            clear H
            have hcz19_0 : wr.cell? ⟨gb173, 0, none⟩ = some (.string a0_0) := (blk_cell BK173.out 0).trans rfl
            have hcz19_1 : wr.cell? ⟨gb173, 1, none⟩ = some (.slice A0_1 l0_1.length c0_1) := (blk_cell BK173.out 1).trans rfl
            have hfz19_0 := blk_frozen BK173.out 0
            have hfz19_1 := blk_frozen BK173.out 1
            go_wp2_with (first | ((with_reducible refine gate_callee (f := 56) rfl ?_); refine goesL_ (some 45) rfl rfl Try.func56 (by kernel_rfl) rfl #[.agg #[.string a0_0, .slice A0_1 l0_1.length c0_1], .int .i64 x8_3] rfl ag ?_; (with_reducible refine (precinctref12_deps.calls k3 a0_0 _ _ l0_1 x8_3 true _ ?side1 ?side2 A17.out).mono ?_); (case side1 => repeat (first | exact (Kd.C_below HR0_1.out HB.out) | (with_reducible refine Kd.C_alloc ?_ _) | (with_reducible refine Kd.C_drewN ?_ _) | (with_reducible refine Kd.C_drew ?_))); (case side2 => exact HC0_1.out); rintro e w20 ⟨rfl, hb⟩; refine ⟨_, rfl, ?_⟩; have n0_ := Aside0.mk (blk_below (rb BK173.out) hb); have n1_ := Aside0.mk (below_step bb hb); clear BK173; clear HB; have BK173 := n0_; have HB := n1_; clear n0_ n1_; (try clear hb); (try clear hb2); (try clear hk); (try clear hi)))
            go_roundg k3
            case measure => have := HJ3.out; have := HK2.out; have := HK3.out; omega
            case rel => exact ⟨(wrap64 (x8_3 + 1)), (by first | rfl | (simp; done) | (simp [*]; done)), H', ⟨by have := HJ3.out; have := HK2.out; have := HK3.out; omega⟩, ⟨by (with_reducible repeat (first | refine blk_drewN ?_ _ | refine blk_drew ?_ | refine blk_alloc ?_ _)); exact BK173.out⟩, ⟨bb⟩⟩
           ·replace c18 := Bool.eq_false_iff.mpr c18
            subst c18
            have H1 : (some (x8_3, 32)) = some (r1, r2) := by rw [if_neg (show ¬ (false = true) by decide)] at H; exact H
            clear H
            have H := H1
            clear H1
            simp only [Option.some.injEq, Prod.mk.injEq] at H
            obtain ⟨rfl, rfl⟩ := H
            have hcz21_0 : wr.cell? ⟨gb173, 0, none⟩ = some (.string a0_0) := (blk_cell BK173.out 0).trans rfl
            have hcz21_1 : wr.cell? ⟨gb173, 1, none⟩ = some (.slice A0_1 l0_1.length c0_1) := (blk_cell BK173.out 1).trans rfl
            have hfz21_0 := blk_frozen BK173.out 0
            have hfz21_1 := blk_frozen BK173.out 1
            go_wp2_with (first | ((with_reducible refine gate_callee (f := 56) rfl ?_); refine goesL_ (some 45) rfl rfl Try.func56 (by kernel_rfl) rfl #[.agg #[.string a0_0, .slice A0_1 l0_1.length c0_1], .int .i64 x8_3] rfl ag ?_; (with_reducible refine (precinctref12_deps.calls k3 a0_0 _ _ l0_1 x8_3 false _ ?side1 ?side2 A17.out).mono ?_); (case side1 => repeat (first | exact (Kd.C_below HR0_1.out HB.out) | (with_reducible refine Kd.C_alloc ?_ _) | (with_reducible refine Kd.C_drewN ?_ _) | (with_reducible refine Kd.C_drew ?_))); (case side2 => exact HC0_1.out); rintro e w22 ⟨rfl, hb⟩; refine ⟨_, rfl, ?_⟩; have n0_ := Aside0.mk (blk_below (rb BK173.out) hb); have n1_ := Aside0.mk (below_step bb hb); clear BK173; clear HB; have BK173 := n0_; have HB := n1_; clear n0_ n1_; (try clear hb); (try clear hb2); (try clear hk); (try clear hi)))
            go_ret2
            exact ⟨by first | rfl | (simp [errW_none, errW_some] <;> rfl) | (simp [*, errW_none, errW_some] <;> rfl), bb⟩
          ·rw [if_neg c16] at H
           have c16b0 : decide (x8_3 < (l0_1.length : Int)) = false := decide_eq_false c16
           clear c16
           have H' := Aside0.mk H
           clear H
           go_wp2
           go_loopg [10] k3 (fun kq v10 w' => ∃ (x10_4 : Int), v10 = .int .i64 x10_4 ∧ Aside0 (precinctref12_Check.l2 kq (l0_1.length : Int) x10_4 a0_0 l0_1 = some (r1, r2)) ∧ Aside0 (kq ≤ k3) ∧ Aside0 (w'.heap[gb173]? = some (.cells #[.string a0_0, (.slice A0_1 l0_1.length c0_1)] 30 (0, 0))) ∧ Aside0 (Below w.heap.size w w'))
           case atStart => exact ⟨(0), (by first | rfl | (simp; done) | (simp [*]; done)), H', ⟨Nat.le_refl _⟩, ⟨by (with_reducible repeat (first | refine blk_drewN ?_ _ | refine blk_drew ?_ | refine blk_alloc ?_ _)); exact BK173.out⟩, ⟨bb⟩⟩
           case round =>
            clear H'
            try clear c1
            try clear p2
            try clear c3
            try clear c5
            try clear p6
            try clear c7
            try clear c7b0
            try clear c7b1
            try clear c8
            try clear c9
            try clear c9b0
            try clear c11
            try clear c11b0
            try clear c11b1
            try clear c16
            try clear c16b0
            try clear c18
            try clear hcz12_0
            try clear hcz12_1
            try clear hcz14_0
            try clear hcz14_1
            try clear hcz19_0
            try clear hcz19_1
            try clear hcz21_0
            try clear hcz21_1
            try clear hcz6_0
            try clear hcz6_1
            try clear hfz12_0
            try clear hfz12_1
            try clear hfz14_0
            try clear hfz14_1
            try clear hfz19_0
            try clear hfz19_1
            try clear hfz21_0
            try clear hfz21_1
            try clear hfz6_0
            try clear hfz6_1
            try clear p2
            try clear p6
            obtain ⟨x10_4, rfl, HA, HK4, BK173, HB⟩ := hrel
            cases gk with
            | zero => exact absurd HA.out (by simp [precinctref12_Check.l2])
            | succ k4 =>
             have H := HA.out
             clear HA
             simp only [precinctref12_Check.l2] at H
             by_cases c23 : x10_4 < (l0_1.length : Int)
             ·rw [if_pos c23] at H
              have c23b0 : decide (x10_4 < (l0_1.length : Int)) = true := decide_eq_true c23
              clear c23
              replace H := Option.bind_eq_some_iff.mp H
              obtain ⟨t177, A240, H⟩ := H
              replace H : (if t177 = true then (some (x10_4, 33)) else (precinctref12_Check.l2 k4 (l0_1.length : Int) (wrap64 (x10_4 + 1)) a0_0 l0_1)) = some (r1, r2) := H
              have A24 := Aside0.mk A240
              clear A240
              by_cases c25 : t177 = true
              ·subst c25
               have H1 : (some (x10_4, 33)) = some (r1, r2) := by rw [if_pos rfl] at H; exact H
               clear H
               have H := H1
               clear H1
               simp only [Option.some.injEq, Prod.mk.injEq] at H
               obtain ⟨rfl, rfl⟩ := H
               have hcz26_0 : wr.cell? ⟨gb173, 0, none⟩ = some (.string a0_0) := (blk_cell BK173.out 0).trans rfl
               have hcz26_1 : wr.cell? ⟨gb173, 1, none⟩ = some (.slice A0_1 l0_1.length c0_1) := (blk_cell BK173.out 1).trans rfl
               have hfz26_0 := blk_frozen BK173.out 0
               have hfz26_1 := blk_frozen BK173.out 1
               go_wp2_with (first | ((with_reducible refine gate_callee (f := 57) rfl ?_); refine goesL_ (some 58) rfl rfl Try.func57 (by kernel_rfl) rfl #[.agg #[.string a0_0, .slice A0_1 l0_1.length c0_1], .int .i64 x10_4, .int .i64 x10_4, .int .i64 (l0_1.length : Int)] rfl ag ?_; (with_reducible refine (precinctref12_Behind.calls k4 a0_0 _ _ l0_1 x10_4 x10_4 (l0_1.length : Int) true _ ?side1 ?side2 A24.out).mono ?_); (case side1 => repeat (first | exact (Kd.C_below HR0_1.out HB.out) | (with_reducible refine Kd.C_alloc ?_ _) | (with_reducible refine Kd.C_drewN ?_ _) | (with_reducible refine Kd.C_drew ?_))); (case side2 => exact HC0_1.out); rintro e w27 ⟨rfl, hb⟩; refine ⟨_, rfl, ?_⟩; have n0_ := Aside0.mk (blk_below (rb BK173.out) hb); have n1_ := Aside0.mk (below_step bb hb); clear BK173; clear HB; have BK173 := n0_; have HB := n1_; clear n0_ n1_; (try clear hb); (try clear hb2); (try clear hk); (try clear hi)))
               go_ret2
               exact ⟨by first | rfl | (simp [errW_none, errW_some] <;> rfl) | (simp [*, errW_none, errW_some] <;> rfl), bb⟩
              ·replace c25 := Bool.eq_false_iff.mpr c25
               subst c25
               have H1 : (precinctref12_Check.l2 k4 (l0_1.length : Int) (wrap64 (x10_4 + 1)) a0_0 l0_1) = some (r1, r2) := by rw [if_neg (show ¬ (false = true) by decide)] at H; exact H
               clear H
               have H := H1
               clear H1
               have H' := Aside0.mk H
               clear H
               have hcz28_0 : wr.cell? ⟨gb173, 0, none⟩ = some (.string a0_0) := (blk_cell BK173.out 0).trans rfl
               have hcz28_1 : wr.cell? ⟨gb173, 1, none⟩ = some (.slice A0_1 l0_1.length c0_1) := (blk_cell BK173.out 1).trans rfl
               have hfz28_0 := blk_frozen BK173.out 0
               have hfz28_1 := blk_frozen BK173.out 1
               go_wp2_with (first | ((with_reducible refine gate_callee (f := 57) rfl ?_); refine goesL_ (some 58) rfl rfl Try.func57 (by kernel_rfl) rfl #[.agg #[.string a0_0, .slice A0_1 l0_1.length c0_1], .int .i64 x10_4, .int .i64 x10_4, .int .i64 (l0_1.length : Int)] rfl ag ?_; (with_reducible refine (precinctref12_Behind.calls k4 a0_0 _ _ l0_1 x10_4 x10_4 (l0_1.length : Int) false _ ?side1 ?side2 A24.out).mono ?_); (case side1 => repeat (first | exact (Kd.C_below HR0_1.out HB.out) | (with_reducible refine Kd.C_alloc ?_ _) | (with_reducible refine Kd.C_drewN ?_ _) | (with_reducible refine Kd.C_drew ?_))); (case side2 => exact HC0_1.out); rintro e w29 ⟨rfl, hb⟩; refine ⟨_, rfl, ?_⟩; have n0_ := Aside0.mk (blk_below (rb BK173.out) hb); have n1_ := Aside0.mk (below_step bb hb); clear BK173; clear HB; have BK173 := n0_; have HB := n1_; clear n0_ n1_; (try clear hb); (try clear hb2); (try clear hk); (try clear hi)))
               go_roundg k4
               case measure => have := HJ3.out; have := HK2.out; have := HK3.out; have := HK4.out; omega
               case rel => exact ⟨(wrap64 (x10_4 + 1)), (by first | rfl | (simp; done) | (simp [*]; done)), H', ⟨by have := HJ3.out; have := HK2.out; have := HK3.out; have := HK4.out; omega⟩, ⟨by (with_reducible repeat (first | refine blk_drewN ?_ _ | refine blk_drew ?_ | refine blk_alloc ?_ _)); exact BK173.out⟩, ⟨bb⟩⟩
             ·rw [if_neg c23] at H
              have c23b0 : decide (x10_4 < (l0_1.length : Int)) = false := decide_eq_false c23
              clear c23
              simp only [Option.some.injEq, Prod.mk.injEq] at H
              obtain ⟨rfl, rfl⟩ := H
              go_wp2
              go_ret2
              exact ⟨by first | rfl | (simp [errW_none, errW_some] <;> rfl) | (simp [*, errW_none, errW_some] <;> rfl), bb⟩
 ·replace c3 := Bool.eq_false_iff.mpr c3
  subst c3
  have H1 : (some ((-1), 30)) = some (r1, r2) := by rw [if_neg (show ¬ (false = true) by decide)] at H; exact H
  clear H
  have H := H1
  clear H1
  simp only [Option.some.injEq, Prod.mk.injEq] at H
  obtain ⟨rfl, rfl⟩ := H
  go_enter Try.func16, Try.ntmps16
  go_wp2_with (first | ((with_reducible refine gate_dst (N := 1) rfl ?_); refine box_event ?hg (N := 1) ?hd (cs := #[.string a0_0, .slice A0_1 l0_1.length c0_1]) (t := 30) ?hr ?_; (case hd => rfl); (case hg => rfl); (case hr => first | (go_simp; done) | (go_simp; rfl)); intro gb173 hg w30 hbox hb; have n0_ := Aside0.mk (below_step bb hb); have n1_ := Aside0.mk (hbox); have n2_ := Aside0.mk ((by rw [hg]; exact (below_size bb) : w.heap.size ≤ gb173)); have n3_ := Aside0.mk ((by rw [hg]; exact (below_size bb) : w.heap.size ≤ gb173)); clear HB; have HB := n0_; have BK173 := n1_; have GW173 := n2_; have GE173 := n3_; clear n0_ n1_ n2_ n3_; clear hb hbox hg; have hcz31_0 : w30.cell? ⟨gb173, 0, none⟩ = some (.string a0_0) := (blk_cell BK173.out 0).trans rfl; have hcz31_1 : w30.cell? ⟨gb173, 1, none⟩ = some (.slice A0_1 l0_1.length c0_1) := (blk_cell BK173.out 1).trans rfl; have hfz31_0 := blk_frozen BK173.out 0; have hfz31_1 := blk_frozen BK173.out 1) | ((with_reducible refine gate_callee (f := 54) rfl ?_); refine goesL_ (some 14) rfl rfl Try.func54 (by kernel_rfl) rfl #[.string a0_0] rfl ag ?_; (with_reducible refine (precinctref11_Named.calls k a0_0 false _ A2.out).mono ?_); rintro e w' ⟨rfl, ⟨nd, rfl⟩⟩; refine ⟨_, rfl, ?_⟩))
  go_ret2
  exact ⟨by first | rfl | (simp [errW_none, errW_some] <;> rfl) | (simp [*, errW_none, errW_some] <;> rfl), bb⟩

end Go.Proofs.Ytjicfkmpgogppaa.PG
