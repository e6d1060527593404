-- printed by a program of this session out of the translation; see NOTES.md
import Derived.Test.YtjicfkmpgogppaaPGx0
import Derived.Test.YtjicfkmpgogppaaPGx14
import Derived.Test.YtjicfkmpgogppaaRb
namespace Go.Proofs.Ytjicfkmpgogppaa.PG
open Go.RowKit Go.Proofs.YtjicfkmpgogppaaW.PrintWords Go.Proofs.YtjicfkmpgogppaaW.PrintLast Go.Proofs.YtjicfkmpgogppaaW.PrintMore Go.Proofs.YtjicfkmpgogppaaRb
attribute [local go_sem] max2_int min2_int max_two min_two max_three min_three max_four min_four   -- for this text's walks alone
set_option linter.unusedVariables false
set_option linter.unusedSimpArgs false

/-! ### precinctref12_Behind: function 57 -/
mutual
def precinctref12_Behind.l0 : Nat → Int → Int → List Bool → Int → ByteArray → List (S125) → Option (Bool)
 | 0, _, _, _, _, _, _ => none
 | k + 1, x1, x3, x10, x11, x164000, x164001 => if x11 < x3 then (precinctref12_Behind.l1 k x1 x3 x10 x11 0 x164000 x164001) else (some false)
def precinctref12_Behind.l1 : Nat → Int → Int → List Bool → Int → Int → ByteArray → List (S125) → Option (Bool)
 | 0, _, _, _, _, _, _, _ => none
 | k + 1, x1, x3, x10, x11, x12, x164000, x164001 => if x12 < (x164001.length : Int) then (precinctref12_Behind.l2 k x1 x3 x10 x11 x12 0 x164000 x164001) else (precinctref12_Behind.l0 k x1 x3 x10 (wrap64 (x11 + 1)) x164000 x164001)
def precinctref12_Behind.l2 : Nat → Int → Int → List Bool → Int → Int → Int → ByteArray → List (S125) → Option (Bool)
 | 0, _, _, _, _, _, _, _, _ => none
 | k + 1, x1, x3, x10, x11, x12, x13, x164000, x164001 => if x13 < (x164001.length : Int) then ((precinctref12_Waits.f k x164000 x164001 x12 x13).bind fun t169 => (if t169 = true then (if 0 ≤ x13 then (if x13 < (x10.length : Int) then (if rdOf false x10 x13 = true then (precinctref12_Behind.j3 k x1 x3 x10 x11 x12 x13 t169 (x12 == x1) x164000 x164001) else (precinctref12_Behind.j3 k x1 x3 x10 x11 x12 x13 t169 false x164000 x164001)) else (none)) else (none)) else (precinctref12_Behind.j3 k x1 x3 x10 x11 x12 x13 t169 false x164000 x164001))) else (precinctref12_Behind.l1 k x1 x3 x10 x11 (wrap64 (x12 + 1)) x164000 x164001)
def precinctref12_Behind.j3 : Nat → Int → Int → List Bool → Int → Int → Int → Bool → Bool → ByteArray → List (S125) → Option (Bool)
 | 0, _, _, _, _, _, _, _, _, _, _ => none
 | k + 1, x1, x3, x10, x11, x12, x13, x14, x63, x164000, x164001 => if x63 = true then (some true) else (if x14 = true then (if 0 ≤ x13 then (if x13 < (x10.length : Int) then (if rdOf false x10 x13 = true then (if 0 ≤ x12 then (if x12 < (x10.length : Int) then (precinctref12_Behind.l2 k x1 x3 (x10.set (x12 : Int).toNat true) x11 x12 (wrap64 (x13 + 1)) x164000 x164001) else (none)) else (none)) else (precinctref12_Behind.l2 k x1 x3 x10 x11 x12 (wrap64 (x13 + 1)) x164000 x164001)) else (none)) else (none)) else (precinctref12_Behind.l2 k x1 x3 x10 x11 x12 (wrap64 (x13 + 1)) x164000 x164001))
end
def precinctref12_Behind.f (k : Nat) (a0_0 : ByteArray) (l0_1 : List (S125)) (a1 : Int) (a2 : Int) (a3 : Int) : Option (Bool) := if a3 = 0 then (some false) else ((precinctref12_Waits.f k a0_0 l0_1 a1 a2).bind fun t164 => (if t164 = true then (some true) else (if 0 ≤ (l0_1.length : Int) then (if ((l0_1.length : Int) : Int).toNat ≤ 281474976710656 then ((some (List.replicate ((l0_1.length : Int) : Int).toNat false : List Bool)).bind fun y165 => (if 0 ≤ a2 then (if a2 < (y165.length : Int) then (precinctref12_Behind.l0 k a1 a3 (y165.set (a2 : Int).toNat true) 0 a0_0 l0_1) else (none)) else (none))) else (none)) else (none))))
theorem precinctref12_Behind.mono_l : ∀ k, (∀ y0 y1 y2 y3 y4 y5, LeO (precinctref12_Behind.l0 k y0 y1 y2 y3 y4 y5) (precinctref12_Behind.l0 (k + 1) y0 y1 y2 y3 y4 y5)) ∧ (∀ y0 y1 y2 y3 y4 y5 y6, LeO (precinctref12_Behind.l1 k y0 y1 y2 y3 y4 y5 y6) (precinctref12_Behind.l1 (k + 1) y0 y1 y2 y3 y4 y5 y6)) ∧ (∀ y0 y1 y2 y3 y4 y5 y6 y7, LeO (precinctref12_Behind.l2 k y0 y1 y2 y3 y4 y5 y6 y7) (precinctref12_Behind.l2 (k + 1) y0 y1 y2 y3 y4 y5 y6 y7)) ∧ (∀ y0 y1 y2 y3 y4 y5 y6 y7 y8 y9, LeO (precinctref12_Behind.j3 k y0 y1 y2 y3 y4 y5 y6 y7 y8 y9) (precinctref12_Behind.j3 (k + 1) y0 y1 y2 y3 y4 y5 y6 y7 y8 y9))
 | 0 => ⟨fun _ _ _ _ _ _ r h => by simp [precinctref12_Behind.l0] at h, fun _ _ _ _ _ _ _ r h => by simp [precinctref12_Behind.l1] at h, fun _ _ _ _ _ _ _ _ r h => by simp [precinctref12_Behind.l2] at h, fun _ _ _ _ _ _ _ _ _ _ r h => by simp [precinctref12_Behind.j3] at h⟩
 | k + 1 => by
  obtain ⟨ih0, ih1, ih2, ih3⟩ := precinctref12_Behind.mono_l k
  refine ⟨?_, ?_, ?_, ?_⟩
  ·intro y0 y1 y2 y3 y4 y5
   unfold precinctref12_Behind.l0
   repeat' first
   | (with_reducible exact ih0 _ _ _ _ _ _)
   | (with_reducible exact ih1 _ _ _ _ _ _ _)
   | (with_reducible exact ih2 _ _ _ _ _ _ _ _)
   | (with_reducible exact ih3 _ _ _ _ _ _ _ _ _ _)
   | (with_reducible exact precinctref12_Waits.mono _ _ _ _ _)
   | (with_reducible exact LeO.refl _)
   | (with_reducible exact LeO.none _)
   | (with_reducible refine LeO.ite ?_ ?_)
   | (with_reducible refine LeO.bind ?_ (fun _ => ?_))
   | exact ih0 _ _ _ _ _ _
   | exact ih1 _ _ _ _ _ _ _
   | exact ih2 _ _ _ _ _ _ _ _
   | exact ih3 _ _ _ _ _ _ _ _ _ _
   | exact precinctref12_Waits.mono _ _ _ _ _
   | exact LeO.none _
   | refine LeO.ite ?_ ?_
   | refine LeO.bind ?_ (fun _ => ?_)
  ·intro y0 y1 y2 y3 y4 y5 y6
   unfold precinctref12_Behind.l1
   repeat' first
   | (with_reducible exact ih0 _ _ _ _ _ _)
   | (with_reducible exact ih1 _ _ _ _ _ _ _)
   | (with_reducible exact ih2 _ _ _ _ _ _ _ _)
   | (with_reducible exact ih3 _ _ _ _ _ _ _ _ _ _)
   | (with_reducible exact precinctref12_Waits.mono _ _ _ _ _)
   | (with_reducible exact LeO.refl _)
   | (with_reducible exact LeO.none _)
   | (with_reducible refine LeO.ite ?_ ?_)
   | (with_reducible refine LeO.bind ?_ (fun _ => ?_))
   | exact ih0 _ _ _ _ _ _
   | exact ih1 _ _ _ _ _ _ _
   | exact ih2 _ _ _ _ _ _ _ _
   | exact ih3 _ _ _ _ _ _ _ _ _ _
   | exact precinctref12_Waits.mono _ _ _ _ _
   | exact LeO.none _
   | refine LeO.ite ?_ ?_
   | refine LeO.bind ?_ (fun _ => ?_)
  ·intro y0 y1 y2 y3 y4 y5 y6 y7
   unfold precinctref12_Behind.l2
   repeat' first
   | (with_reducible exact ih0 _ _ _ _ _ _)
   | (with_reducible exact ih1 _ _ _ _ _ _ _)
   | (with_reducible exact ih2 _ _ _ _ _ _ _ _)
   | (with_reducible exact ih3 _ _ _ _ _ _ _ _ _ _)
   | (with_reducible exact precinctref12_Waits.mono _ _ _ _ _)
   | (with_reducible exact LeO.refl _)
   | (with_reducible exact LeO.none _)
   | (with_reducible refine LeO.ite ?_ ?_)
   | (with_reducible refine LeO.bind ?_ (fun _ => ?_))
   | exact ih0 _ _ _ _ _ _
   | exact ih1 _ _ _ _ _ _ _
   | exact ih2 _ _ _ _ _ _ _ _
   | exact ih3 _ _ _ _ _ _ _ _ _ _
   | exact precinctref12_Waits.mono _ _ _ _ _
   | exact LeO.none _
   | refine LeO.ite ?_ ?_
   | refine LeO.bind ?_ (fun _ => ?_)
  ·intro y0 y1 y2 y3 y4 y5 y6 y7 y8 y9
   unfold precinctref12_Behind.j3
   repeat' first
   | (with_reducible exact ih0 _ _ _ _ _ _)
   | (with_reducible exact ih1 _ _ _ _ _ _ _)
   | (with_reducible exact ih2 _ _ _ _ _ _ _ _)
   | (with_reducible exact ih3 _ _ _ _ _ _ _ _ _ _)
   | (with_reducible exact precinctref12_Waits.mono _ _ _ _ _)
   | (with_reducible exact LeO.refl _)
   | (with_reducible exact LeO.none _)
   | (with_reducible refine LeO.ite ?_ ?_)
   | (with_reducible refine LeO.bind ?_ (fun _ => ?_))
   | exact ih0 _ _ _ _ _ _
   | exact ih1 _ _ _ _ _ _ _
   | exact ih2 _ _ _ _ _ _ _ _
   | exact ih3 _ _ _ _ _ _ _ _ _ _
   | exact precinctref12_Waits.mono _ _ _ _ _
   | exact LeO.none _
   | refine LeO.ite ?_ ?_
   | refine LeO.bind ?_ (fun _ => ?_)
theorem precinctref12_Behind.mono : ∀ a0 a1 a2 a3 a4 k, LeO (precinctref12_Behind.f k a0 a1 a2 a3 a4) (precinctref12_Behind.f (k + 1) a0 a1 a2 a3 a4) := by
 intro a0 a1 a2 a3 a4 k
 obtain ⟨ih0, ih1, ih2, ih3⟩ := precinctref12_Behind.mono_l k
 unfold precinctref12_Behind.f
 repeat' first
   | (with_reducible exact ih0 _ _ _ _ _ _)
   | (with_reducible exact ih1 _ _ _ _ _ _ _)
   | (with_reducible exact ih2 _ _ _ _ _ _ _ _)
   | (with_reducible exact ih3 _ _ _ _ _ _ _ _ _ _)
   | (with_reducible exact precinctref12_Waits.mono _ _ _ _ _)
   | (with_reducible exact LeO.refl _)
   | (with_reducible exact LeO.none _)
   | (with_reducible refine LeO.ite ?_ ?_)
   | (with_reducible refine LeO.bind ?_ (fun _ => ?_))
   | exact ih0 _ _ _ _ _ _
   | exact ih1 _ _ _ _ _ _ _
   | exact ih2 _ _ _ _ _ _ _ _
   | exact ih3 _ _ _ _ _ _ _ _ _ _
   | exact precinctref12_Waits.mono _ _ _ _ _
   | exact LeO.none _
   | refine LeO.ite ?_ ?_
   | refine LeO.bind ?_ (fun _ => ?_)
set_option maxHeartbeats 8000000 in
set_option maxRecDepth 100000 in
theorem precinctref12_Behind.calls (k : Nat) (a0_0 : ByteArray) (A0_1 : Option Addr) (c0_1 : Nat) (l0_1 : List (S125)) (a1 : Int) (a2 : Int) (a3 : Int) (r : Bool) (w : World) (hr0_1 : Kd.C k125 w A0_1 l0_1.length l0_1) (hc0_1 : l0_1.length ≤ c0_1) (h : precinctref12_Behind.f k a0_0 l0_1 a1 a2 a3 = some r) :
  Calls Try.prog 57 #[.agg #[.string a0_0, .slice A0_1 l0_1.length c0_1], .int .i64 a1, .int .i64 a2, .int .i64 a3] w fun e w' => e = .returned (.bool r) ∧ Below w.heap.size w w' := by
 have hu30 := Try.underlying30
 have HR0_1 := Aside0.mk hr0_1
 have HC0_1 := Aside0.mk hc0_1
 clear hr0_1 hc0_1
 have HB := Aside0.mk (Below.refl w.heap.size w)
 have H : (if a3 = 0 then (some false) else ((precinctref12_Waits.f k a0_0 l0_1 a1 a2).bind fun t164 => (if t164 = true then (some true) else (if 0 ≤ (l0_1.length : Int) then (if ((l0_1.length : Int) : Int).toNat ≤ 281474976710656 then ((some (List.replicate ((l0_1.length : Int) : Int).toNat false : List Bool)).bind fun y165 => (if 0 ≤ a2 then (if a2 < (y165.length : Int) then (precinctref12_Behind.l0 k a1 a3 (y165.set (a2 : Int).toNat true) 0 a0_0 l0_1) else (none)) else (none))) else (none)) else (none))))) = some r := h
 clear h
 by_cases c5 : a3 = 0
 ·rw [if_pos c5] at H
  have c5b0 : (a3 == 0) = true := beq_iff_eq.mpr c5
  have c5b1 : (a3 != 0) = false := bne_eq_false_iff_eq.mpr c5
  clear c5
  obtain rfl := Option.some.inj H
  go_enter Try.func57, Try.ntmps57
  go_wp2_with (first | ((with_reducible refine gate_dst (N := 4) rfl ?_); refine box_event ?hg (N := 4) ?hd (cs := #[.string a0_0, .slice A0_1 l0_1.length c0_1]) (t := 30) ?hr ?_; (case hd => rfl); (case hg => rfl); (case hr => first | (go_simp; done) | (go_simp; rfl)); intro gb163 hg w6 hbox hb; have n0_ := Aside0.mk (below_step bb hb); have n1_ := Aside0.mk (hbox); have n2_ := Aside0.mk ((by rw [hg]; exact (below_size bb) : w.heap.size ≤ gb163)); have n3_ := Aside0.mk ((by rw [hg]; exact (below_size bb) : w.heap.size ≤ gb163)); clear HB; have HB := n0_; have BK163 := n1_; have GW163 := n2_; have GE163 := n3_; clear n0_ n1_ n2_ n3_; clear hb hbox hg))
  go_ret
  exact ⟨by first | rfl | (simp [errW_none, errW_some] <;> rfl) | (simp [*, errW_none, errW_some] <;> rfl), bb⟩
 ·rw [if_neg c5] at H
  have c5b0 : (a3 == 0) = false := beq_eq_false_iff_ne.mpr c5
  have c5b1 : (a3 != 0) = true := bne_iff_ne.mpr c5
  replace H := Option.bind_eq_some_iff.mp H
  obtain ⟨t164, A70, H⟩ := H
  replace H : (if t164 = true then (some true) else (if 0 ≤ (l0_1.length : Int) then (if ((l0_1.length : Int) : Int).toNat ≤ 281474976710656 then ((some (List.replicate ((l0_1.length : Int) : Int).toNat false : List Bool)).bind fun y165 => (if 0 ≤ a2 then (if a2 < (y165.length : Int) then (precinctref12_Behind.l0 k a1 a3 (y165.set (a2 : Int).toNat true) 0 a0_0 l0_1) else (none)) else (none))) else (none)) else (none))) = some r := H
  have A7 := Aside0.mk A70
  clear A70
  by_cases c8 : t164 = true
  ·subst c8
   have H1 : (some true) = some r := by rw [if_pos rfl] at H; exact H
   clear H
   have H := H1
   clear H1
   obtain rfl := Option.some.inj H
   go_enter Try.func57, Try.ntmps57
   go_wp2_with (first | ((with_reducible refine gate_dst (N := 4) rfl ?_); refine box_event ?hg (N := 4) ?hd (cs := #[.string a0_0, .slice A0_1 l0_1.length c0_1]) (t := 30) ?hr ?_; (case hd => rfl); (case hg => rfl); (case hr => first | (go_simp; done) | (go_simp; rfl)); intro gb163 hg w9 hbox hb; have n0_ := Aside0.mk (below_step bb hb); have n1_ := Aside0.mk (hbox); have n2_ := Aside0.mk ((by rw [hg]; exact (below_size bb) : w.heap.size ≤ gb163)); have n3_ := Aside0.mk ((by rw [hg]; exact (below_size bb) : w.heap.size ≤ gb163)); clear HB; have HB := n0_; have BK163 := n1_; have GW163 := n2_; have GE163 := n3_; clear n0_ n1_ n2_ n3_; clear hb hbox hg; have hcz10_0 : w9.cell? ⟨gb163, 0, none⟩ = some (.string a0_0) := (blk_cell BK163.out 0).trans rfl; have hcz10_1 : w9.cell? ⟨gb163, 1, none⟩ = some (.slice A0_1 l0_1.length c0_1) := (blk_cell BK163.out 1).trans rfl; have hfz10_0 := blk_frozen BK163.out 0; have hfz10_1 := blk_frozen BK163.out 1) | ((with_reducible refine gate_callee (f := 59) rfl ?_); refine goesL_ (some 20) rfl rfl Try.func59 (by kernel_rfl) rfl #[.agg #[.string a0_0, .slice A0_1 l0_1.length c0_1], .int .i64 a1, .int .i64 a2] rfl ag ?_; (with_reducible refine (precinctref12_Waits.calls k a0_0 _ _ l0_1 a1 a2 true _ ?side1 ?side2 A7.out).mono ?_); (case side1 => repeat (first | exact (Kd.C_below HR0_1.out HB.out) | (with_reducible refine Kd.C_alloc ?_ _) | (with_reducible refine Kd.C_drewN ?_ _) | (with_reducible refine Kd.C_drew ?_))); (case side2 => exact HC0_1.out); rintro e w11 ⟨rfl, hb⟩; refine ⟨_, rfl, ?_⟩; have n0_ := Aside0.mk (blk_below (rb BK163.out) hb); have n1_ := Aside0.mk (below_step bb hb); clear BK163; clear HB; have BK163 := n0_; have HB := n1_; clear n0_ n1_; (try clear hb); (try clear hb2); (try clear hk); (try clear hi)))
   go_ret
   exact ⟨by first | rfl | (simp [errW_none, errW_some] <;> rfl) | (simp [*, errW_none, errW_some] <;> rfl), bb⟩
  ·replace c8 := Bool.eq_false_iff.mpr c8
   subst c8
   have H1 : (if 0 ≤ (l0_1.length : Int) then (if ((l0_1.length : Int) : Int).toNat ≤ 281474976710656 then ((some (List.replicate ((l0_1.length : Int) : Int).toNat false : List Bool)).bind fun y165 => (if 0 ≤ a2 then (if a2 < (y165.length : Int) then (precinctref12_Behind.l0 k a1 a3 (y165.set (a2 : Int).toNat true) 0 a0_0 l0_1) else (none)) else (none))) else (none)) else (none)) = some r := by rw [if_neg (show ¬ (false = true) by decide)] at H; exact H
   clear H
   have H := H1
   clear H1
   by_cases c12 : 0 ≤ (l0_1.length : Int)
   ·rw [if_pos c12] at H
    have c12b0 := eq_true c12
    have c12b1 : decide (0 ≤ (l0_1.length : Int)) = true := decide_eq_true c12
    clear c12
    by_cases c13 : ((l0_1.length : Int) : Int).toNat ≤ 281474976710656
    ·rw [if_pos c13] at H
     have c13b0 := eq_true c13
     have c13b1 : decide (((l0_1.length : Int) : Int).toNat ≤ 281474976710656) = true := decide_eq_true c13
     clear c13
     obtain ⟨y165, hy165⟩ : ∃ y_ : List Bool, y_ = (List.replicate ((l0_1.length : Int) : Int).toNat false) := ⟨_, rfl⟩
     replace H : (if 0 ≤ a2 then (if a2 < (y165.length : Int) then (precinctref12_Behind.l0 k a1 a3 (y165.set (a2 : Int).toNat true) 0 a0_0 l0_1) else (none)) else (none)) = some r := by first | (rw [hy165]; with_reducible exact H) | (have H2_ := (Option.bind_some _ _).symm.trans H; rw [hy165]; with_reducible exact H2_) | (have H2_ := (Option.bind_some _ _).symm.trans H; with_reducible exact H2_) | with_reducible exact H | (rw [hy165]; exact H) | exact H
     have Ny165 := Aside0.mk hy165
     clear hy165
     by_cases c14 : 0 ≤ a2
     ·rw [if_pos c14] at H
      have c14b0 : decide (0 ≤ a2) = true := decide_eq_true c14
      clear c14
      by_cases c15 : a2 < (y165.length : Int)
      ·rw [if_pos c15] at H
       have c15b0 : decide (a2 < (y165.length : Int)) = true := decide_eq_true c15
       clear c15
       obtain ⟨y168, hy168⟩ : ∃ y_ : List Bool, y_ = (y165.set (a2 : Int).toNat true) := ⟨_, rfl⟩
       replace H : (precinctref12_Behind.l0 k a1 a3 y168 0 a0_0 l0_1) = some r := by first | (rw [hy168]; with_reducible exact H) | (have H2_ := (Option.bind_some _ _).symm.trans H; rw [hy168]; with_reducible exact H2_) | (have H2_ := (Option.bind_some _ _).symm.trans H; with_reducible exact H2_) | with_reducible exact H | (rw [hy168]; exact H) | exact H
       have Ny168 := Aside0.mk hy168
       clear hy168
       have H' := Aside0.mk H
       clear H
       go_enter Try.func57, Try.ntmps57
       go_wp2_with (first | ((with_reducible refine gate_dst (N := 4) rfl ?_); refine box_event ?hg (N := 4) ?hd (cs := #[.string a0_0, .slice A0_1 l0_1.length c0_1]) (t := 30) ?hr ?_; (case hd => rfl); (case hg => rfl); (case hr => first | (go_simp; done) | (go_simp; rfl)); intro gb163 hg w17 hbox hb; have n0_ := Aside0.mk (below_step bb hb); have n1_ := Aside0.mk (hbox); have n2_ := Aside0.mk ((by rw [hg]; exact (below_size bb) : w.heap.size ≤ gb163)); have n3_ := Aside0.mk ((by rw [hg]; exact (below_size bb) : w.heap.size ≤ gb163)); clear HB; have HB := n0_; have BK163 := n1_; have GW163 := n2_; have GE163 := n3_; clear n0_ n1_ n2_ n3_; clear hb hbox hg; have hcz18_0 : w17.cell? ⟨gb163, 0, none⟩ = some (.string a0_0) := (blk_cell BK163.out 0).trans rfl; have hcz18_1 : w17.cell? ⟨gb163, 1, none⟩ = some (.slice A0_1 l0_1.length c0_1) := (blk_cell BK163.out 1).trans rfl; have hfz18_0 := blk_frozen BK163.out 0; have hfz18_1 := blk_frozen BK163.out 1) | ((with_reducible refine gate_callee (f := 59) rfl ?_); refine goesL_ (some 20) rfl rfl Try.func59 (by kernel_rfl) rfl #[.agg #[.string a0_0, .slice A0_1 l0_1.length c0_1], .int .i64 a1, .int .i64 a2] rfl ag ?_; (with_reducible refine (precinctref12_Waits.calls k a0_0 _ _ l0_1 a1 a2 false _ ?side1 ?side2 A7.out).mono ?_); (case side1 => repeat (first | exact (Kd.C_below HR0_1.out HB.out) | (with_reducible refine Kd.C_alloc ?_ _) | (with_reducible refine Kd.C_drewN ?_ _) | (with_reducible refine Kd.C_drew ?_))); (case side2 => exact HC0_1.out); rintro e w19 ⟨rfl, hb⟩; refine ⟨_, rfl, ?_⟩; have n0_ := Aside0.mk (blk_below (rb BK163.out) hb); have n1_ := Aside0.mk (below_step bb hb); clear BK163; clear HB; have BK163 := n0_; have HB := n1_; clear n0_ n1_; (try clear hb); (try clear hb2); (try clear hk); (try clear hi); have hcz20_0 : w19.cell? ⟨gb163, 0, none⟩ = some (.string a0_0) := (blk_cell BK163.out 0).trans rfl; have hcz20_1 : w19.cell? ⟨gb163, 1, none⟩ = some (.slice A0_1 l0_1.length c0_1) := (blk_cell BK163.out 1).trans rfl; have hfz20_0 := blk_frozen BK163.out 0; have hfz20_1 := blk_frozen BK163.out 1) | ((with_reducible refine gate_dst (N := 25) rfl ?_); refine Kd.R_make Kd.bool _ 4 rfl (N := 25) rfl 172 _ _ rfl (l0_1.length : Int) rfl rfl Try.underlying172 (.bool false) 1 info4 rfl (by decide) (by omega) false (ok := fun _ => True) (okp := fun _ => True) rfl (fun _ hk => hk) trivial (of_decide_eq_true (by first | (with_reducible assumption) | assumption)) (Nat.le_trans (Nat.mul_le_mul_right _ (of_decide_eq_true (by first | (with_reducible assumption) | assumption) : (l0_1.length : Int).toNat ≤ 281474976710656)) (by omega)) (Below.refl _ _) (Nat.le_refl _) ?_; intro v166 w21 ho22 hb hg_ hnew_; clear hg_ hnew_; (first | rw [← Ny165.out] at ho22 | (simp only [Int.reduceToNat] at ho22; rw [← Ny165.out] at ho22)); have n0_ := Aside0.mk (Kd.R_lower ho22 (below_size bb)); have n1_ := Aside0.mk (blk_below (rb BK163.out) hb); have n2_ := Aside0.mk (below_step bb hb); clear BK163; clear HB; have HO167 := n0_; have BK163 := n1_; have HB := n2_; clear n0_ n1_ n2_; clear hb ho22; have p16 : 0 ≤ (a2 : Int) := of_decide_eq_true (by first | (with_reducible assumption) | assumption); have q16 : (a2 : Int) < ((y165.length : Int) : Int) := of_decide_eq_true (by first | (with_reducible assumption) | assumption); obtain ⟨go16, co16, eo16, gb16, gl16, cl16, HG16⟩ := Kd.R_form HO167.out (by omega); (first | cases eo16 | (injection eo16 with ea_ en_ ec_; (first | subst ea_ | (injection ea_ with ea_; subst ea_)); subst ec_; clear en_)); have GB16 := Aside0.mk gb16; have GG16 := Aside0.mk HG16; clear gb16 gl16 HG16; obtain ⟨hx16_0, hf16_0⟩ := Kd.R_celln false HO167.out (a2 : Int) p16 q16; replace p16 := eq_true p16; replace q16 := eq_true q16; obtain ⟨hy23_, hz23_⟩ := Kd.R_celln false HO167.out (a2 : Int) (of_decide_eq_true (by first | (with_reducible assumption) | assumption)) (of_decide_eq_true (by first | (with_reducible assumption) | assumption)); have HP23 := Kd.R_putg HO167.out (a2 : Int) true) | ((with_reducible refine gate_store (t := 4) (p := 28) rfl ?_); refine store_event (t := 4) (p := 28) (v := ?vo_w24) (w1 := (w21.setCell ⟨go16, (a2 : Int).toNat, none⟩ (.bool true))) ?hg ?ho ?hn ?hr ?_; (case ho => rfl); (case hg => rfl); (case hn => rfl); (case hr => first | (go_simp; done) | (go_simp; rfl)); intro w24 hw; have hg : w21.grownBy w24 (some go16) := (by rw [hw]; exact HP23.2); have hp_ : Kd.R Kd.bool 4 w24 w.heap.size (fun _ => True) (.slice (some ⟨go16, 0, none⟩) y165.length co16) y168 := (by rw [hw, Ny168.out]; exact HP23.1); clear HP23; have n0_ := Aside0.mk (blk_grown (rb BK163.out) hg (Kd.R_ne HO167.out BK163.out (by decide))); have n1_ := Aside0.mk (hp_); have n2_ := Aside0.mk ((by rw [hw]; exact below_set (HB.out) GB16.out : Below w.heap.size w w24)); clear BK163; clear HO167; clear HB; have BK163 := n0_; have HO167 := n1_; have HB := n2_; clear n0_ n1_ n2_; clear hg hw hp_))
       go_loopg [11] k (fun kq v11 w' => ∃ (x10_1 : List Bool) (x11_1 : Int), v11 = .int .i64 x11_1 ∧ Aside0 (precinctref12_Behind.l0 kq a1 a3 x10_1 x11_1 a0_0 l0_1 = some r) ∧ Aside0 (kq ≤ k) ∧ Aside0 (Kd.R Kd.bool 4 w' w.heap.size (fun _ => True) (.slice (some ⟨go16, 0, none⟩) y165.length co16) x10_1) ∧ Aside0 (w'.heap[gb163]? = some (.cells #[.string a0_0, (.slice A0_1 l0_1.length c0_1)] 30 (0, 0))) ∧ Aside0 (Below w.heap.size w w'))
       case atStart => exact ⟨(y168), (0), (by first | rfl | (simp; done) | (simp [*]; done)), H', ⟨Nat.le_refl _⟩, ⟨kR HO167.out⟩, ⟨by (with_reducible repeat (first | refine blk_drewN ?_ _ | refine blk_drew ?_ | refine blk_alloc ?_ _)); exact BK163.out⟩, ⟨bb⟩⟩
       case round =>
        clear H'
        try clear c1
        try clear p1
        try clear q1
        try clear hx1
        try clear p2
        try clear c5
        try clear c5b0
        try clear c5b1
        try clear c8
        try clear c12
        try clear c12b0
        try clear c12b1
        try clear c13
        try clear c13b0
        try clear c13b1
        try clear c14
        try clear c14b0
        try clear c15
        try clear c15b0
        try clear p16
        try clear q16
        try clear hx16
        try clear hf16
        try clear hcz10_0
        try clear hcz10_1
        try clear hcz18_0
        try clear hcz18_1
        try clear hcz20_0
        try clear hcz20_1
        try clear hfz10_0
        try clear hfz10_1
        try clear hfz18_0
        try clear hfz18_1
        try clear hfz20_0
        try clear hfz20_1
        try clear hx16_0
        try clear p16
        try clear q16
        obtain ⟨x10_1, x11_1, rfl, HA, HK1, HO_10, BK163, HB⟩ := hrel
        have hl10_1 := (Kd.R_reads' HO_10.out).1
        rw [hl10_1] at HO_10
        (try simp only [hl10_1])
        (try simp only [hl10_1] at BK163)
        cases gk with
        | zero => exact absurd HA.out (by simp [precinctref12_Behind.l0])
        | succ k1 =>
         have H := HA.out
         clear HA
         simp only [precinctref12_Behind.l0] at H
         by_cases c25 : x11_1 < a3
         ·rw [if_pos c25] at H
          have c25b0 : decide (x11_1 < a3) = true := decide_eq_true c25
          clear c25
          have H' := Aside0.mk H
          clear H
          go_wp2
          go_loopg [12] k1 (fun kq v12 w' => ∃ (x10_2 : List Bool) (x12_2 : Int), v12 = .int .i64 x12_2 ∧ Aside0 (precinctref12_Behind.l1 kq a1 a3 x10_2 x11_1 x12_2 a0_0 l0_1 = some r) ∧ Aside0 (kq ≤ k1) ∧ Aside0 (Kd.R Kd.bool 4 w' w.heap.size (fun _ => True) (.slice (some ⟨go16, 0, none⟩) x10_1.length co16) x10_2) ∧ Aside0 (w'.heap[gb163]? = some (.cells #[.string a0_0, (.slice A0_1 l0_1.length c0_1)] 30 (0, 0))) ∧ Aside0 (Below w.heap.size w w'))
          case atStart => exact ⟨(x10_1), (0), (by first | rfl | (simp; done) | (simp [*]; done)), H', ⟨Nat.le_refl _⟩, ⟨by (try simp only [hl10_1]); (with_reducible repeat (first | apply Kd.R_alloc | apply Kd.R_drewN | apply Kd.R_drew)); exact HO_10.out⟩, ⟨by (try simp only [hl10_1]); (with_reducible repeat (first | refine blk_drewN ?_ _ | refine blk_drew ?_ | refine blk_alloc ?_ _)); exact BK163.out⟩, ⟨bb⟩⟩
          case round =>
           clear H'
           try clear c1
           try clear p1
           try clear q1
           try clear hx1
           try clear c2
           try clear p2
           try clear c5
           try clear c5b0
           try clear c5b1
           try clear c8
           try clear c12
           try clear c12b0
           try clear c12b1
           try clear c13
           try clear c13b0
           try clear c13b1
           try clear c14
           try clear c14b0
           try clear c15
           try clear c15b0
           try clear p16
           try clear q16
           try clear hx16
           try clear hf16
           try clear c25
           try clear c25b0
           try clear hcz10_0
           try clear hcz10_1
           try clear hcz18_0
           try clear hcz18_1
           try clear hcz20_0
           try clear hcz20_1
           try clear hfz10_0
           try clear hfz10_1
           try clear hfz18_0
           try clear hfz18_1
           try clear hfz20_0
           try clear hfz20_1
           try clear hx16_0
           try clear p1
           try clear p16
           try clear p2
           try clear q1
           try clear q16
           obtain ⟨x10_2, x12_2, rfl, HA, HK2, HO_10, BK163, HB⟩ := hrel
           have hl10_2 := (Kd.R_reads' HO_10.out).1
           rw [hl10_2] at HO_10
           (try simp only [hl10_2])
           (try simp only [hl10_2] at BK163)
           cases gk with
           | zero => exact absurd HA.out (by simp [precinctref12_Behind.l1])
           | succ k2 =>
            have H := HA.out
            clear HA
            simp only [precinctref12_Behind.l1] at H
            by_cases c26 : x12_2 < (l0_1.length : Int)
            ·rw [if_pos c26] at H
             have c26b0 : decide (x12_2 < (l0_1.length : Int)) = true := decide_eq_true c26
             (try (have c26b0z0 := c26b0; rw [hl10_1] at c26b0z0))
             (try (have c26b0y0 := c26b0; rw [← hl10_1] at c26b0y0))
             (try (have c26b0z1 := c26b0; rw [hl10_2] at c26b0z1))
             (try (have c26b0y1 := c26b0; rw [← hl10_2] at c26b0y1))
             clear c26
             have H' := Aside0.mk H
             clear H
             have hcz27_0 : wr.cell? ⟨gb163, 0, none⟩ = some (.string a0_0) := (blk_cell BK163.out 0).trans rfl
             have hcz27_1 : wr.cell? ⟨gb163, 1, none⟩ = some (.slice A0_1 l0_1.length c0_1) := (blk_cell BK163.out 1).trans rfl
             have hfz27_0 := blk_frozen BK163.out 0
             have hfz27_1 := blk_frozen BK163.out 1
             go_wp2
             go_loopg [13] k2 (fun kq v13 w' => ∃ (x10_3 : List Bool) (x13_3 : Int), v13 = .int .i64 x13_3 ∧ Aside0 (precinctref12_Behind.l2 kq a1 a3 x10_3 x11_1 x12_2 x13_3 a0_0 l0_1 = some r) ∧ Aside0 (kq ≤ k2) ∧ Aside0 (Kd.R Kd.bool 4 w' w.heap.size (fun _ => True) (.slice (some ⟨go16, 0, none⟩) x10_2.length co16) x10_3) ∧ Aside0 (w'.heap[gb163]? = some (.cells #[.string a0_0, (.slice A0_1 l0_1.length c0_1)] 30 (0, 0))) ∧ Aside0 (Below w.heap.size w w'))
             case atStart => exact ⟨(x10_2), (0), (by first | rfl | (simp; done) | (simp [*]; done)), H', ⟨Nat.le_refl _⟩, ⟨by (try simp only [hl10_1]); (try simp only [hl10_2]); (with_reducible repeat (first | apply Kd.R_alloc | apply Kd.R_drewN | apply Kd.R_drew)); exact HO_10.out⟩, ⟨by (try simp only [hl10_1]); (try simp only [hl10_2]); (with_reducible repeat (first | refine blk_drewN ?_ _ | refine blk_drew ?_ | refine blk_alloc ?_ _)); exact BK163.out⟩, ⟨bb⟩⟩
             case round =>
              clear H'
              try clear c1
              try clear p1
              try clear q1
              try clear hx1
              try clear c2
              try clear p2
              try clear c5
              try clear c5b0
              try clear c5b1
              try clear c8
              try clear c12
              try clear c12b0
              try clear c12b1
              try clear c13
              try clear c13b0
              try clear c13b1
              try clear c14
              try clear c14b0
              try clear c15
              try clear c15b0
              try clear p16
              try clear q16
              try clear hx16
              try clear hf16
              try clear c25
              try clear c25b0
              try clear c26
              try clear c26b0
              try clear hcz10_0
              try clear hcz10_1
              try clear hcz18_0
              try clear hcz18_1
              try clear hcz20_0
              try clear hcz20_1
              try clear hcz27_0
              try clear hcz27_1
              try clear hfz10_0
              try clear hfz10_1
              try clear hfz18_0
              try clear hfz18_1
              try clear hfz20_0
              try clear hfz20_1
              try clear hfz27_0
              try clear hfz27_1
              try clear hx16_0
              try clear p1
              try clear p16
              try clear p2
              try clear q1
              try clear q16
              obtain ⟨x10_3, x13_3, rfl, HA, HK3, HO_10, BK163, HB⟩ := hrel
              have hl10_3 := (Kd.R_reads' HO_10.out).1
              rw [hl10_3] at HO_10
              (try simp only [hl10_3])
              (try simp only [hl10_3] at BK163)
              cases gk with
              | zero => exact absurd HA.out (by simp [precinctref12_Behind.l2])
              | succ k3 =>
               have H := HA.out
               clear HA
               simp only [precinctref12_Behind.l2] at H
               by_cases c28 : x13_3 < (l0_1.length : Int)
               ·rw [if_pos c28] at H
                have c28b0 : decide (x13_3 < (l0_1.length : Int)) = true := decide_eq_true c28
                (try (have c28b0z0 := c28b0; rw [hl10_1] at c28b0z0))
                (try (have c28b0y0 := c28b0; rw [← hl10_1] at c28b0y0))
                (try (have c28b0z1 := c28b0; rw [hl10_2] at c28b0z1))
                (try (have c28b0y1 := c28b0; rw [← hl10_2] at c28b0y1))
                (try (have c28b0z2 := c28b0; rw [hl10_3] at c28b0z2))
                (try (have c28b0y2 := c28b0; rw [← hl10_3] at c28b0y2))
                clear c28
                replace H := Option.bind_eq_some_iff.mp H
                obtain ⟨t169, A290, H⟩ := H
                replace H : (if t169 = true then (if 0 ≤ x13_3 then (if x13_3 < (x10_3.length : Int) then (if rdOf false x10_3 x13_3 = true then (precinctref12_Behind.j3 k3 a1 a3 x10_3 x11_1 x12_2 x13_3 t169 (x12_2 == a1) a0_0 l0_1) else (precinctref12_Behind.j3 k3 a1 a3 x10_3 x11_1 x12_2 x13_3 t169 false a0_0 l0_1)) else (none)) else (none)) else (precinctref12_Behind.j3 k3 a1 a3 x10_3 x11_1 x12_2 x13_3 t169 false a0_0 l0_1)) = some r := H
                have A29 := Aside0.mk A290
                clear A290
                have HC30 := Aside0.mk H
                clear H
                have hcz31_0 : wr.cell? ⟨gb163, 0, none⟩ = some (.string a0_0) := (blk_cell BK163.out 0).trans rfl
                have hcz31_1 : wr.cell? ⟨gb163, 1, none⟩ = some (.slice A0_1 l0_1.length c0_1) := (blk_cell BK163.out 1).trans rfl
                have hfz31_0 := blk_frozen BK163.out 0
                have hfz31_1 := blk_frozen BK163.out 1
                go_upto_region 18 with (first | ((with_reducible refine gate_callee (f := 59) rfl ?_); refine goesL_ (some 51) rfl rfl Try.func59 (by kernel_rfl) rfl #[.agg #[.string a0_0, .slice A0_1 l0_1.length c0_1], .int .i64 x12_2, .int .i64 x13_3] rfl ag ?_; (with_reducible refine (precinctref12_Waits.calls k3 a0_0 _ _ l0_1 x12_2 x13_3 t169 _ ?side1 ?side2 A29.out).mono ?_); (case side1 => repeat (first | exact (Kd.C_below HR0_1.out HB.out) | (with_reducible refine Kd.C_alloc ?_ _) | (with_reducible refine Kd.C_drewN ?_ _) | (with_reducible refine Kd.C_drew ?_))); (case side2 => exact HC0_1.out); rintro e w32 ⟨rfl, hb⟩; refine ⟨_, rfl, ?_⟩; have n0_ := Aside0.mk (Kd.R_below (kR HO_10.out) hb); have n1_ := Aside0.mk (blk_below (rb BK163.out) hb); have n2_ := Aside0.mk (below_step bb hb); clear HO_10; clear BK163; clear HB; have HO_10 := n0_; have BK163 := n1_; have HB := n2_; clear n0_ n1_ n2_; (try clear hb); (try clear hb2); (try clear hk); (try clear hi)))
                (try simp only [Act.put, List.setIfInBounds_toArray, List.set_cons_zero, List.set_cons_succ])
                go_cut [63] (fun v63 wc => ∃ (kq : Nat) (x63_29 : Bool), v63 = .bool x63_29 ∧ Aside0 (precinctref12_Behind.j3 kq a1 a3 x10_3 x11_1 x12_2 x13_3 t169 x63_29 a0_0 l0_1 = some r) ∧ Aside0 (kq ≤ k3) ∧ Aside0 (Kd.R Kd.bool 4 wc w.heap.size (fun _ => True) (.slice (some ⟨go16, 0, none⟩) x10_3.length co16) x10_3) ∧ Aside0 (wc.heap[gb163]? = some (.cells #[.string a0_0, (.slice A0_1 l0_1.length c0_1)] 30 (0, 0))) ∧ Aside0 (Below w.heap.size w wc))
                case first =>
                 have H := HC30.out
                 clear HC30
                 by_cases c33 : t169 = true
                 ·subst c33
                  have H1 : (if 0 ≤ x13_3 then (if x13_3 < (x10_3.length : Int) then (if rdOf false x10_3 x13_3 = true then (precinctref12_Behind.j3 k3 a1 a3 x10_3 x11_1 x12_2 x13_3 true (x12_2 == a1) a0_0 l0_1) else (precinctref12_Behind.j3 k3 a1 a3 x10_3 x11_1 x12_2 x13_3 true false a0_0 l0_1)) else (none)) else (none)) = some r := by rw [if_pos rfl] at H; exact H
                  clear H
                  have H := H1
                  clear H1
                  by_cases c34 : 0 ≤ x13_3
                  ·rw [if_pos c34] at H
                   have c34b0 : decide (0 ≤ x13_3) = true := decide_eq_true c34
                   clear c34
                   (first | rw [c34b0] | (simp only [i64_w, i32_w]; rw [c34b0]) | skip)
                   by_cases c35 : x13_3 < (x10_3.length : Int)
                   ·rw [if_pos c35] at H
                    have c35b0 : decide (x13_3 < (x10_3.length : Int)) = true := decide_eq_true c35
                    (try (have c35b0z0 := c35b0; rw [hl10_1] at c35b0z0))
                    (try (have c35b0y0 := c35b0; rw [← hl10_1] at c35b0y0))
                    (try (have c35b0z1 := c35b0; rw [hl10_2] at c35b0z1))
                    (try (have c35b0y1 := c35b0; rw [← hl10_2] at c35b0y1))
                    (try (have c35b0z2 := c35b0; rw [hl10_3] at c35b0z2))
                    (try (have c35b0y2 := c35b0; rw [← hl10_3] at c35b0y2))
                    clear c35
                    obtain ⟨bq36, hbq36⟩ : ∃ b_ : Bool, b_ = (rdOf false x10_3 x13_3) := ⟨_, rfl⟩
                    replace H : (if bq36 = true then (precinctref12_Behind.j3 k3 a1 a3 x10_3 x11_1 x12_2 x13_3 true (x12_2 == a1) a0_0 l0_1) else (precinctref12_Behind.j3 k3 a1 a3 x10_3 x11_1 x12_2 x13_3 true false a0_0 l0_1)) = some r := by rw [← hbq36] at H; exact H
                    have Nbq36 := Aside0.mk hbq36
                    clear hbq36
                    by_cases c37 : bq36 = true
                    ·subst c37
                     have H1 : (precinctref12_Behind.j3 k3 a1 a3 x10_3 x11_1 x12_2 x13_3 true (x12_2 == a1) a0_0 l0_1) = some r := by rw [if_pos rfl] at H; exact H
                     clear H
                     have H := H1
                     clear H1
                     have H' := Aside0.mk H
                     clear H
                     have p170 : 0 ≤ (x13_3 : Int) := of_decide_eq_true (by first | (with_reducible assumption) | assumption)
                     have q170 : x13_3 < (x10_3.length : Int) := of_decide_eq_true (by first | (with_reducible assumption) | assumption)
                     obtain ⟨ad170, e170, hx170_0⟩ := Kd.at_bool (Kd.R_reads' HO_10.out).2.2 x13_3 p170 q170
                     (try rw [← Nbq36.out] at hx170_0)
                     obtain rfl : (⟨go16, 0, none⟩ : Addr) = ad170 := (by injection e170)
                     (first | simp only [add_plain] at hx170_0 | simp only [add_at] at hx170_0 | simp only [Addr.add, Nat.zero_add] at hx170_0 | skip)
                     replace p170 := eq_true p170
                     replace q170 := eq_true q170
                     go_wp2
                     go_meet
                     case rel => exact ⟨_, ((x12_2 == a1)), (by first | rfl | (simp; done) | (simp [*]; done)), H', ⟨by have := HK1.out; have := HK2.out; have := HK3.out; first | omega | exact Nat.le_refl _⟩, ⟨by (try simp only [hl10_1]); (try simp only [hl10_2]); (try simp only [hl10_3]); (with_reducible repeat (first | apply Kd.R_alloc | apply Kd.R_drewN | apply Kd.R_drew)); exact HO_10.out⟩, ⟨by (try simp only [hl10_1]); (try simp only [hl10_2]); (try simp only [hl10_3]); (with_reducible repeat (first | refine blk_drewN ?_ _ | refine blk_drew ?_ | refine blk_alloc ?_ _)); exact BK163.out⟩, ⟨bb⟩⟩
                    ·replace c37 := Bool.eq_false_iff.mpr c37
                     subst c37
                     have H1 : (precinctref12_Behind.j3 k3 a1 a3 x10_3 x11_1 x12_2 x13_3 true false a0_0 l0_1) = some r := by rw [if_neg (show ¬ (false = true) by decide)] at H; exact H
                     clear H
                     have H := H1
                     clear H1
                     have H' := Aside0.mk H
                     clear H
                     have p170 : 0 ≤ (x13_3 : Int) := of_decide_eq_true (by first | (with_reducible assumption) | assumption)
                     have q170 : x13_3 < (x10_3.length : Int) := of_decide_eq_true (by first | (with_reducible assumption) | assumption)
                     obtain ⟨ad170, e170, hx170_0⟩ := Kd.at_bool (Kd.R_reads' HO_10.out).2.2 x13_3 p170 q170
                     (try rw [← Nbq36.out] at hx170_0)
                     obtain rfl : (⟨go16, 0, none⟩ : Addr) = ad170 := (by injection e170)
                     (first | simp only [add_plain] at hx170_0 | simp only [add_at] at hx170_0 | simp only [Addr.add, Nat.zero_add] at hx170_0 | skip)
                     replace p170 := eq_true p170
                     replace q170 := eq_true q170
                     go_wp2
                     go_meet
                     case rel => exact ⟨_, (false), (by first | rfl | (simp; done) | (simp [*]; done)), H', ⟨by have := HK1.out; have := HK2.out; have := HK3.out; first | omega | exact Nat.le_refl _⟩, ⟨by (try simp only [hl10_1]); (try simp only [hl10_2]); (try simp only [hl10_3]); (with_reducible repeat (first | apply Kd.R_alloc | apply Kd.R_drewN | apply Kd.R_drew)); exact HO_10.out⟩, ⟨by (try simp only [hl10_1]); (try simp only [hl10_2]); (try simp only [hl10_3]); (with_reducible repeat (first | refine blk_drewN ?_ _ | refine blk_drew ?_ | refine blk_alloc ?_ _)); exact BK163.out⟩, ⟨bb⟩⟩
                   ·rw [if_neg c35] at H
                    exact absurd H (by simp)
                  ·rw [if_neg c34] at H
                   exact absurd H (by simp)
                 ·replace c33 := Bool.eq_false_iff.mpr c33
                  subst c33
                  have H1 : (precinctref12_Behind.j3 k3 a1 a3 x10_3 x11_1 x12_2 x13_3 false false a0_0 l0_1) = some r := by rw [if_neg (show ¬ (false = true) by decide)] at H; exact H
                  clear H
                  have H := H1
                  clear H1
                  have H' := Aside0.mk H
                  clear H
                  go_wp2
                  go_meet
                  case rel => exact ⟨_, (false), (by first | rfl | (simp; done) | (simp [*]; done)), H', ⟨by have := HK1.out; have := HK2.out; have := HK3.out; first | omega | exact Nat.le_refl _⟩, ⟨by (try simp only [hl10_1]); (try simp only [hl10_2]); (try simp only [hl10_3]); (with_reducible repeat (first | apply Kd.R_alloc | apply Kd.R_drewN | apply Kd.R_drew)); exact HO_10.out⟩, ⟨by (try simp only [hl10_1]); (try simp only [hl10_2]); (try simp only [hl10_3]); (with_reducible repeat (first | refine blk_drewN ?_ _ | refine blk_drew ?_ | refine blk_alloc ?_ _)); exact BK163.out⟩, ⟨bb⟩⟩
                case rest =>
                 clear HC30
                 try clear c1
                 try clear p1
                 try clear q1
                 try clear hx1
                 try clear c2
                 try clear p2
                 try clear c3
                 try clear q3
                 try clear c5
                 try clear c5b0
                 try clear c5b1
                 try clear c8
                 try clear c12
                 try clear c12b0
                 try clear c12b1
                 try clear c13
                 try clear c13b0
                 try clear c13b1
                 try clear c14
                 try clear c14b0
                 try clear c15
                 try clear c15b0
                 try clear p16
                 try clear q16
                 try clear hx16
                 try clear hf16
                 try clear p17
                 try clear q17
                 try clear hx17
                 try clear c25
                 try clear c25b0
                 try clear c26
                 try clear c26b0
                 try clear c28
                 try clear c28b0
                 try clear c33
                 try clear c34
                 try clear c34b0
                 try clear c35
                 try clear c35b0
                 try clear q36
                 try clear c37
                 try clear hcz10_0
                 try clear hcz10_1
                 try clear hcz18_0
                 try clear hcz18_1
                 try clear hcz20_0
                 try clear hcz20_1
                 try clear hcz27_0
                 try clear hcz27_1
                 try clear hcz31_0
                 try clear hcz31_1
                 try clear hfz10_0
                 try clear hfz10_1
                 try clear hfz18_0
                 try clear hfz18_1
                 try clear hfz20_0
                 try clear hfz20_1
                 try clear hfz27_0
                 try clear hfz27_1
                 try clear hfz31_0
                 try clear hfz31_1
                 try clear hx16_0
                 try clear hx170_0
                 try clear p1
                 try clear p16
                 try clear p170
                 try clear p2
                 try clear q1
                 try clear q16
                 try clear q170
                 obtain ⟨kq, x63_29, rfl, HA, HJ29, HO_10, BK163, HB⟩ := hcut
                 cases kq with
                 | zero => exact absurd HA.out (by simp [precinctref12_Behind.j3])
                 | succ kj29 =>
                  have H := HA.out
                  clear HA
                  simp only [precinctref12_Behind.j3] at H
                  by_cases c38 : x63_29 = true
                  ·subst c38
                   have H1 : (some true) = some r := by rw [if_pos rfl] at H; exact H
                   clear H
                   have H := H1
                   clear H1
                   obtain rfl := Option.some.inj H
                   go_wp2
                   go_ret
                   exact ⟨by first | rfl | (simp [errW_none, errW_some] <;> rfl) | (simp [*, errW_none, errW_some] <;> rfl), bb⟩
                  ·replace c38 := Bool.eq_false_iff.mpr c38
                   subst c38
                   have H1 : (if t169 = true then (if 0 ≤ x13_3 then (if x13_3 < (x10_3.length : Int) then (if rdOf false x10_3 x13_3 = true then (if 0 ≤ x12_2 then (if x12_2 < (x10_3.length : Int) then (precinctref12_Behind.l2 kj29 a1 a3 (x10_3.set (x12_2 : Int).toNat true) x11_1 x12_2 (wrap64 (x13_3 + 1)) a0_0 l0_1) else (none)) else (none)) else (precinctref12_Behind.l2 kj29 a1 a3 x10_3 x11_1 x12_2 (wrap64 (x13_3 + 1)) a0_0 l0_1)) else (none)) else (none)) else (precinctref12_Behind.l2 kj29 a1 a3 x10_3 x11_1 x12_2 (wrap64 (x13_3 + 1)) a0_0 l0_1)) = some r := by rw [if_neg (show ¬ (false = true) by decide)] at H; exact H
                   clear H
                   have H := H1
                   clear H1
                   by_cases c39 : t169 = true
                   ·subst c39
                    have H1 : (if 0 ≤ x13_3 then (if x13_3 < (x10_3.length : Int) then (if rdOf false x10_3 x13_3 = true then (if 0 ≤ x12_2 then (if x12_2 < (x10_3.length : Int) then (precinctref12_Behind.l2 kj29 a1 a3 (x10_3.set (x12_2 : Int).toNat true) x11_1 x12_2 (wrap64 (x13_3 + 1)) a0_0 l0_1) else (none)) else (none)) else (precinctref12_Behind.l2 kj29 a1 a3 x10_3 x11_1 x12_2 (wrap64 (x13_3 + 1)) a0_0 l0_1)) else (none)) else (none)) = some r := by rw [if_pos rfl] at H; exact H
                    clear H
                    have H := H1
                    clear H1
                    by_cases c40 : 0 ≤ x13_3
                    ·rw [if_pos c40] at H
                     have c40b0 : decide (0 ≤ x13_3) = true := decide_eq_true c40
                     clear c40
                     by_cases c41 : x13_3 < (x10_3.length : Int)
                     ·rw [if_pos c41] at H
                      have c41b0 : decide (x13_3 < (x10_3.length : Int)) = true := decide_eq_true c41
                      (try (have c41b0z0 := c41b0; rw [hl10_1] at c41b0z0))
                      (try (have c41b0y0 := c41b0; rw [← hl10_1] at c41b0y0))
                      (try (have c41b0z1 := c41b0; rw [hl10_2] at c41b0z1))
                      (try (have c41b0y1 := c41b0; rw [← hl10_2] at c41b0y1))
                      (try (have c41b0z2 := c41b0; rw [hl10_3] at c41b0z2))
                      (try (have c41b0y2 := c41b0; rw [← hl10_3] at c41b0y2))
                      clear c41
                      obtain ⟨bq42, hbq42⟩ : ∃ b_ : Bool, b_ = (rdOf false x10_3 x13_3) := ⟨_, rfl⟩
                      replace H : (if bq42 = true then (if 0 ≤ x12_2 then (if x12_2 < (x10_3.length : Int) then (precinctref12_Behind.l2 kj29 a1 a3 (x10_3.set (x12_2 : Int).toNat true) x11_1 x12_2 (wrap64 (x13_3 + 1)) a0_0 l0_1) else (none)) else (none)) else (precinctref12_Behind.l2 kj29 a1 a3 x10_3 x11_1 x12_2 (wrap64 (x13_3 + 1)) a0_0 l0_1)) = some r := by rw [← hbq42] at H; exact H
                      have Nbq42 := Aside0.mk hbq42
                      clear hbq42
                      by_cases c43 : bq42 = true
                      ·subst c43
                       have H1 : (if 0 ≤ x12_2 then (if x12_2 < (x10_3.length : Int) then (precinctref12_Behind.l2 kj29 a1 a3 (x10_3.set (x12_2 : Int).toNat true) x11_1 x12_2 (wrap64 (x13_3 + 1)) a0_0 l0_1) else (none)) else (none)) = some r := by rw [if_pos rfl] at H; exact H
                       clear H
                       have H := H1
                       clear H1
                       by_cases c44 : 0 ≤ x12_2
                       ·rw [if_pos c44] at H
                        have c44b0 : decide (0 ≤ x12_2) = true := decide_eq_true c44
                        clear c44
                        by_cases c45 : x12_2 < (x10_3.length : Int)
                        ·rw [if_pos c45] at H
                         have c45b0 : decide (x12_2 < (x10_3.length : Int)) = true := decide_eq_true c45
                         (try (have c45b0z0 := c45b0; rw [hl10_1] at c45b0z0))
                         (try (have c45b0y0 := c45b0; rw [← hl10_1] at c45b0y0))
                         (try (have c45b0z1 := c45b0; rw [hl10_2] at c45b0z1))
                         (try (have c45b0y1 := c45b0; rw [← hl10_2] at c45b0y1))
                         (try (have c45b0z2 := c45b0; rw [hl10_3] at c45b0z2))
                         (try (have c45b0y2 := c45b0; rw [← hl10_3] at c45b0y2))
                         clear c45
                         obtain ⟨y172, hy172⟩ : ∃ y_ : List Bool, y_ = (x10_3.set (x12_2 : Int).toNat true) := ⟨_, rfl⟩
                         replace H : (precinctref12_Behind.l2 kj29 a1 a3 y172 x11_1 x12_2 (wrap64 (x13_3 + 1)) a0_0 l0_1) = some r := by first | (rw [hy172]; with_reducible exact H) | (have H2_ := (Option.bind_some _ _).symm.trans H; rw [hy172]; with_reducible exact H2_) | (have H2_ := (Option.bind_some _ _).symm.trans H; with_reducible exact H2_) | with_reducible exact H | (rw [hy172]; exact H) | exact H
                         have Ny172 := Aside0.mk hy172
                         clear hy172
                         have H' := Aside0.mk H
                         clear H
                         have p171 : 0 ≤ (x13_3 : Int) := of_decide_eq_true (by first | (with_reducible assumption) | assumption)
                         have q171 : x13_3 < (x10_3.length : Int) := of_decide_eq_true (by first | (with_reducible assumption) | assumption)
                         obtain ⟨ad171, e171, hx171_0⟩ := Kd.at_bool (Kd.R_reads' HO_10.out).2.2 x13_3 p171 q171
                         (try rw [← Nbq42.out] at hx171_0)
                         obtain rfl : (⟨go16, 0, none⟩ : Addr) = ad171 := (by injection e171)
                         (first | simp only [add_plain] at hx171_0 | simp only [add_at] at hx171_0 | simp only [Addr.add, Nat.zero_add] at hx171_0 | skip)
                         replace p171 := eq_true p171
                         replace q171 := eq_true q171
                         have p46 : 0 ≤ (x12_2 : Int) := of_decide_eq_true (by first | (with_reducible assumption) | assumption)
                         have q46 : (x12_2 : Int) < ((x10_3.length : Int) : Int) := of_decide_eq_true (by first | (with_reducible assumption) | assumption)
                         obtain ⟨hx46_0, hf46_0⟩ := Kd.R_celln false HO_10.out (x12_2 : Int) p46 q46
                         replace p46 := eq_true p46
                         replace q46 := eq_true q46
                         have HP47 := Kd.R_putg HO_10.out (x12_2 : Int) true
                         go_wp2_with (first | ((with_reducible refine gate_store (t := 4) (p := 73) rfl ?_); refine store_event (t := 4) (p := 73) (v := ?vo_w48) (w1 := (wc.setCell ⟨go16, (x12_2 : Int).toNat, none⟩ (.bool true))) ?hg ?ho ?hn ?hr ?_; (case ho => rfl); (case hg => rfl); (case hn => rfl); (case hr => first | (go_simp; done) | (go_simp; rfl)); intro w48 hw; have hg : wc.grownBy w48 (some go16) := (by rw [hw]; exact HP47.2); have hp_ : Kd.R Kd.bool 4 w48 w.heap.size (fun _ => True) (.slice (some ⟨go16, 0, none⟩) x10_3.length co16) y172 := (by rw [hw, Ny172.out]; exact HP47.1); clear HP47; have n0_ := Aside0.mk (hp_); have n1_ := Aside0.mk (blk_grown (rb BK163.out) hg (Kd.R_ne HO_10.out BK163.out (by decide))); have n2_ := Aside0.mk ((by rw [hw]; exact below_set (HB.out) GB16.out : Below w.heap.size w w48)); clear HO_10; clear BK163; clear HB; have HO_10 := n0_; have BK163 := n1_; have HB := n2_; clear n0_ n1_ n2_; clear hg hw hp_))
                         (try simp only [← hl10_3])
                         go_roundg kj29
                         case measure => have := HK1.out; have := HK2.out; have := HK3.out; have := HJ29.out; omega
                         case rel => exact ⟨(y172), (wrap64 (x13_3 + 1)), (by first | rfl | (simp; done) | (simp [*]; done)), H', ⟨by have := HK1.out; have := HK2.out; have := HK3.out; have := HJ29.out; omega⟩, ⟨by (try simp only [hl10_1]); (try simp only [hl10_2]); (try simp only [hl10_3]); (with_reducible repeat (first | apply Kd.R_alloc | apply Kd.R_drewN | apply Kd.R_drew)); exact HO_10.out⟩, ⟨by (try simp only [hl10_1]); (try simp only [hl10_2]); (try simp only [hl10_3]); (with_reducible repeat (first | refine blk_drewN ?_ _ | refine blk_drew ?_ | refine blk_alloc ?_ _)); exact BK163.out⟩, ⟨bb⟩⟩
                        ·rw [if_neg c45] at H
                         exact absurd H (by simp)
                       ·rw [if_neg c44] at H
                        exact absurd H (by simp)
                      ·replace c43 := Bool.eq_false_iff.mpr c43
                       subst c43
                       have H1 : (precinctref12_Behind.l2 kj29 a1 a3 x10_3 x11_1 x12_2 (wrap64 (x13_3 + 1)) a0_0 l0_1) = some r := by rw [if_neg (show ¬ (false = true) by decide)] at H; exact H
                       clear H
                       have H := H1
                       clear H1
                       have H' := Aside0.mk H
                       clear H
                       have p171 : 0 ≤ (x13_3 : Int) := of_decide_eq_true (by first | (with_reducible assumption) | assumption)
                       have q171 : x13_3 < (x10_3.length : Int) := of_decide_eq_true (by first | (with_reducible assumption) | assumption)
                       obtain ⟨ad171, e171, hx171_0⟩ := Kd.at_bool (Kd.R_reads' HO_10.out).2.2 x13_3 p171 q171
                       (try rw [← Nbq42.out] at hx171_0)
                       obtain rfl : (⟨go16, 0, none⟩ : Addr) = ad171 := (by injection e171)
                       (first | simp only [add_plain] at hx171_0 | simp only [add_at] at hx171_0 | simp only [Addr.add, Nat.zero_add] at hx171_0 | skip)
                       replace p171 := eq_true p171
                       replace q171 := eq_true q171
                       go_wp2
                       (try simp only [← hl10_3])
                       go_roundg kj29
                       case measure => have := HK1.out; have := HK2.out; have := HK3.out; have := HJ29.out; omega
                       case rel => exact ⟨(x10_3), (wrap64 (x13_3 + 1)), (by first | rfl | (simp; done) | (simp [*]; done)), H', ⟨by have := HK1.out; have := HK2.out; have := HK3.out; have := HJ29.out; omega⟩, ⟨by (try simp only [hl10_1]); (try simp only [hl10_2]); (try simp only [hl10_3]); (with_reducible repeat (first | apply Kd.R_alloc | apply Kd.R_drewN | apply Kd.R_drew)); exact HO_10.out⟩, ⟨by (try simp only [hl10_1]); (try simp only [hl10_2]); (try simp only [hl10_3]); (with_reducible repeat (first | refine blk_drewN ?_ _ | refine blk_drew ?_ | refine blk_alloc ?_ _)); exact BK163.out⟩, ⟨bb⟩⟩
                     ·rw [if_neg c41] at H
                      exact absurd H (by simp)
                    ·rw [if_neg c40] at H
                     exact absurd H (by simp)
                   ·replace c39 := Bool.eq_false_iff.mpr c39
                    subst c39
                    have H1 : (precinctref12_Behind.l2 kj29 a1 a3 x10_3 x11_1 x12_2 (wrap64 (x13_3 + 1)) a0_0 l0_1) = some r := by rw [if_neg (show ¬ (false = true) by decide)] at H; exact H
                    clear H
                    have H := H1
                    clear H1
                    have H' := Aside0.mk H
                    clear H
                    go_wp2
                    (try simp only [← hl10_3])
                    go_roundg kj29
                    case measure => have := HK1.out; have := HK2.out; have := HK3.out; have := HJ29.out; omega
                    case rel => exact ⟨(x10_3), (wrap64 (x13_3 + 1)), (by first | rfl | (simp; done) | (simp [*]; done)), H', ⟨by have := HK1.out; have := HK2.out; have := HK3.out; have := HJ29.out; omega⟩, ⟨by (try simp only [hl10_1]); (try simp only [hl10_2]); (try simp only [hl10_3]); (with_reducible repeat (first | apply Kd.R_alloc | apply Kd.R_drewN | apply Kd.R_drew)); exact HO_10.out⟩, ⟨by (try simp only [hl10_1]); (try simp only [hl10_2]); (try simp only [hl10_3]); (with_reducible repeat (first | refine blk_drewN ?_ _ | refine blk_drew ?_ | refine blk_alloc ?_ _)); exact BK163.out⟩, ⟨bb⟩⟩
               ·rw [if_neg c28] at H
                have c28b0 : decide (x13_3 < (l0_1.length : Int)) = false := decide_eq_false c28
                (try (have c28b0z0 := c28b0; rw [hl10_1] at c28b0z0))
                (try (have c28b0y0 := c28b0; rw [← hl10_1] at c28b0y0))
                (try (have c28b0z1 := c28b0; rw [hl10_2] at c28b0z1))
                (try (have c28b0y1 := c28b0; rw [← hl10_2] at c28b0y1))
                (try (have c28b0z2 := c28b0; rw [hl10_3] at c28b0z2))
                (try (have c28b0y2 := c28b0; rw [← hl10_3] at c28b0y2))
                clear c28
                have H' := Aside0.mk H
                clear H
                have hcz49_0 : wr.cell? ⟨gb163, 0, none⟩ = some (.string a0_0) := (blk_cell BK163.out 0).trans rfl
                have hcz49_1 : wr.cell? ⟨gb163, 1, none⟩ = some (.slice A0_1 l0_1.length c0_1) := (blk_cell BK163.out 1).trans rfl
                have hfz49_0 := blk_frozen BK163.out 0
                have hfz49_1 := blk_frozen BK163.out 1
                go_wp2
                (try simp only [← hl10_2, ← hl10_3])
                go_roundg k3
                case measure => have := HK1.out; have := HK2.out; have := HK3.out; omega
                case rel => exact ⟨(x10_3), (wrap64 (x12_2 + 1)), (by first | rfl | (simp; done) | (simp [*]; done)), H', ⟨by have := HK1.out; have := HK2.out; have := HK3.out; omega⟩, ⟨by (try simp only [hl10_1]); (try simp only [hl10_2]); (try simp only [hl10_3]); (with_reducible repeat (first | apply Kd.R_alloc | apply Kd.R_drewN | apply Kd.R_drew)); exact HO_10.out⟩, ⟨by (try simp only [hl10_1]); (try simp only [hl10_2]); (try simp only [hl10_3]); (with_reducible repeat (first | refine blk_drewN ?_ _ | refine blk_drew ?_ | refine blk_alloc ?_ _)); exact BK163.out⟩, ⟨bb⟩⟩
            ·rw [if_neg c26] at H
             have c26b0 : decide (x12_2 < (l0_1.length : Int)) = false := decide_eq_false c26
             (try (have c26b0z0 := c26b0; rw [hl10_1] at c26b0z0))
             (try (have c26b0y0 := c26b0; rw [← hl10_1] at c26b0y0))
             (try (have c26b0z1 := c26b0; rw [hl10_2] at c26b0z1))
             (try (have c26b0y1 := c26b0; rw [← hl10_2] at c26b0y1))
             (try (have c26b0z2 := c26b0; rw [hl10_3] at c26b0z2))
             (try (have c26b0y2 := c26b0; rw [← hl10_3] at c26b0y2))
             clear c26
             have H' := Aside0.mk H
             clear H
             have hcz50_0 : wr.cell? ⟨gb163, 0, none⟩ = some (.string a0_0) := (blk_cell BK163.out 0).trans rfl
             have hcz50_1 : wr.cell? ⟨gb163, 1, none⟩ = some (.slice A0_1 l0_1.length c0_1) := (blk_cell BK163.out 1).trans rfl
             have hfz50_0 := blk_frozen BK163.out 0
             have hfz50_1 := blk_frozen BK163.out 1
             go_wp2
             (try simp only [← hl10_1, ← hl10_2])
             go_roundg k2
             case measure => have := HK1.out; have := HK2.out; omega
             case rel => exact ⟨(x10_2), (wrap64 (x11_1 + 1)), (by first | rfl | (simp; done) | (simp [*]; done)), H', ⟨by have := HK1.out; have := HK2.out; omega⟩, ⟨by (try simp only [hl10_1]); (try simp only [hl10_2]); (with_reducible repeat (first | apply Kd.R_alloc | apply Kd.R_drewN | apply Kd.R_drew)); exact HO_10.out⟩, ⟨by (try simp only [hl10_1]); (try simp only [hl10_2]); (with_reducible repeat (first | refine blk_drewN ?_ _ | refine blk_drew ?_ | refine blk_alloc ?_ _)); exact BK163.out⟩, ⟨bb⟩⟩
         ·rw [if_neg c25] at H
          have c25b0 : decide (x11_1 < a3) = false := decide_eq_false c25
          clear c25
          obtain rfl := Option.some.inj H
          go_wp2
          go_ret
          exact ⟨by first | rfl | (simp [errW_none, errW_some] <;> rfl) | (simp [*, errW_none, errW_some] <;> rfl), bb⟩
      ·rw [if_neg c15] at H
       exact absurd H (by simp)
     ·rw [if_neg c14] at H
      exact absurd H (by simp)
    ·rw [if_neg c13] at H
     exact absurd H (by simp)
   ·rw [if_neg c12] at H
    exact absurd H (by simp)

end Go.Proofs.Ytjicfkmpgogppaa.PG
