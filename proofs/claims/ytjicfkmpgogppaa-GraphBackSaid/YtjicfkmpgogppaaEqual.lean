/-
  pack.Equal: which values are alike.
-/
import Derived.Test.YtjicfkmpgogppaaValsA
import Derived.LoopTactic
import Derived.Outline
import Derived.WalkSmall
namespace Go.Proofs.Ytjicfkmpgogppaa.Eq
set_option linter.unusedVariables false
set_option linter.unusedSimpArgs false
open Go Go.RowKit Go.Proofs.Ytjicfkmpgogppaa.Plain Go.Proofs.Ytjicfkmpgogppaa.Vs Go.Proofs.Ytjicfkmpgogppaa.PG Go.Proofs.YtjicfkmpgogppaaW.PrintWords Go.Proofs.YtjicfkmpgogppaaW.PrintLast Go.Proofs.YtjicfkmpgogppaaW.PrintMore
mutual
def eqV : V → V → Bool
  | ⟨a, b, c, l⟩, y => if a = y.f0 then (if a = 0 then b == y.f1 else if a = 1 then c.toList == y.f2.toList else if a = 2 then (if l.length = y.f3.length then eqVs l y.f3 else false) else true) else false
def eqVs : List V → List V → Bool
  | [], _ => true
  | _ :: _, [] => true
  | x :: l, y :: m => if eqV x y = true then eqVs l m else false
end
/-- both values read -/
def Rd (w : World) (x : V) (A : Option Addr) (c : Nat) : Prop := Kd.C k54 w A x.f3.length x.f3 ∧ x.f3.length ≤ c
def EqOk (x : V) : Prop := ∀ (y : V) (A B : Option Addr) (c d : Nat) (w : World), Rd w x A c → Rd w y B d →
  Calls Try.prog 27 #[.agg #[.int .i64 x.f0, .int .i64 x.f1, .string x.f2, .slice A x.f3.length c], .agg #[.int .i64 y.f0, .int .i64 y.f1, .string y.f2, .slice B y.f3.length d]] w fun e w' => e = .returned (.bool (eqV x y)) ∧ Below w.heap.size w w'
theorem eq_use {x : V} (h : EqOk x) (y : V) (A B : Option Addr) (c d : Nat) (w : World) (hx : Rd w x A c) (hy : Rd w y B d) :
    Calls Try.prog 27 #[.agg #[.int .i64 x.f0, .int .i64 x.f1, .string x.f2, .slice A x.f3.length c], .agg #[.int .i64 y.f0, .int .i64 y.f1, .string y.f2, .slice B y.f3.length d]] w fun e w' => e = .returned (.bool (eqV x y)) ∧ Below w.heap.size w w' := h y A B c d w hx hy
set_option maxHeartbeats 8000000 in
set_option maxRecDepth 100000 in
theorem equalFunc_calls (l m : List V) (A B : Option Addr) (c d : Nat) (w : World) (hl : Kd.C k54 w A l.length l) (hc : l.length ≤ c) (hm : Kd.C k54 w B m.length m) (hd : m.length ≤ d) (ih : ∀ x ∈ l, EqOk x) :
    Calls Try.prog 68 #[.slice A l.length c, .slice B m.length d, .func (.func 27) #[] #[]] w fun e w' => e = .returned (.bool (if l.length = m.length then eqVs l m else false)) ∧ Below w.heap.size w w' := by
  have hu := Try.underlying54
  have HL := Aside0.mk hl
  have HM := Aside0.mk hm
  have HC := Aside0.mk hc
  have HD := Aside0.mk hd
  have HI := Aside0.mk ih
  have hl63 : (l.length : Int) ≤ 9223372036854775807 := by have := hl.2.1; omega
  clear hl hm hc hd ih
  by_cases hn : l.length = m.length
  · have hnb : ((l.length : Int) != (m.length : Int)) = false := by simp [hn]
    have hnb' : (l.length != m.length) = false := by simp [hn]
    rw [if_pos hn]
    have HN := Aside0.mk hn
    clear hn
    go_enter Try.func68, Try.ntmps68
    go_wp2
    go_loopw [17] (fun v17 wr => ∃ i : Nat, v17 = .int .i64 (i : Int) ∧ i ≤ l.length ∧ Aside0 (eqVs l m = eqVs (l.drop i) (m.drop i)) ∧ Aside0 (Below w.heap.size w wr)) (fun v17 _ => l.length - (intOf v17).toNat)
    case atStart => exact ⟨0, rfl, Nat.zero_le _, ⟨by simp⟩, ⟨Below.refl _ _⟩⟩
    case round =>
      obtain ⟨i, rfl, hi, HE, HB⟩ := hrel
      by_cases hlt : i < l.length
      · obtain ⟨ad, A3, c3, rfl, x0, x1, x2, x3, lx, gx⟩ := at_T54 HL.out (i : Int) (by omega) (by omega)
        obtain ⟨ae, B3, d3, rfl, y0, y1, y2, y3, ly, gy⟩ := at_T54 HM.out (i : Int) (by omega) (by have := HN.out; omega)
        have hm1 : i < m.length := by have := HN.out; omega
        have rx : rd_T54 l (i : Int) = l[i] := by
          unfold rd_T54
          rw [Int.toNat_natCast, List.getD_eq_getElem?_getD, List.getElem?_eq_getElem hlt, Option.getD_some]
        have ry : rd_T54 m (i : Int) = m[i] := by
          unfold rd_T54
          rw [Int.toNat_natCast, List.getD_eq_getElem?_getD, List.getElem?_eq_getElem hm1, Option.getD_some]
        rw [rx, Int.toNat_natCast] at x0 x1 x2 x3
        rw [rx] at lx gx
        rw [ry, Int.toNat_natCast] at y0 y1 y2 y3
        rw [ry] at ly gy
        have hmem : l[i] ∈ l := List.getElem_mem hlt
        have hstep : eqVs (l.drop i) (m.drop i) = if eqV l[i] m[i] = true then eqVs (l.drop (i + 1)) (m.drop (i + 1)) else false := by
          rw [List.drop_eq_getElem_cons hlt, List.drop_eq_getElem_cons hm1]
          simp only [eqVs]
        have HE' : Aside0 (eqVs l m = if eqV l[i] m[i] = true then eqVs (l.drop (i + 1)) (m.drop (i + 1)) else false) := ⟨HE.out.trans hstep⟩
        have HIx := Aside0.mk (HI.out l[i] hmem)
        clear hstep HE rx ry hmem
        generalize l[i] = x at x0 x1 x2 x3 lx gx HIx HE'
        generalize m[i] = y at y0 y1 y2 y3 ly gy HE'
        replace x0 := (HB.out.cell (World.block_lt_of_cell? w _ x0)).trans x0
        replace x1 := (HB.out.cell (World.block_lt_of_cell? w _ x1)).trans x1
        replace x2 := (HB.out.cell (World.block_lt_of_cell? w _ x2)).trans x2
        replace x3 := (HB.out.cell (World.block_lt_of_cell? w _ x3)).trans x3
        have hli : (i : Int) < (l.length : Int) := by omega
        have hmi : (i : Int) < (m.length : Int) := by omega
        have hi0 : (0 : Int) ≤ (i : Int) := by omega
        go_upto_region 6 with fail
        have hb1 := below_alloc (Below.refl wr.heap.size wr) (.cells #[.int .i64 x.f0, .int .i64 x.f1, .string x.f2, .slice A3 x.f3.length c3] 54)
        have hx1 := blk_new wr (.cells #[.int .i64 x.f0, .int .i64 x.f1, .string x.f2, .slice A3 x.f3.length c3] 54)
        generalize wr.alloc (.cells #[.int .i64 x.f0, .int .i64 x.f1, .string x.f2, .slice A3 x.f3.length c3] 54) = w2 at hb1 hx1 ⊢
        have HB2 := Aside0.mk (below_then HB.out (below_size HB.out) hb1)
        generalize wr.heap.size = bx at hx1 ⊢
        clear x0 x1 x2 x3 hb1 HB
        replace y0 := (HB2.out.cell (World.block_lt_of_cell? w _ y0)).trans y0
        replace y1 := (HB2.out.cell (World.block_lt_of_cell? w _ y1)).trans y1
        replace y2 := (HB2.out.cell (World.block_lt_of_cell? w _ y2)).trans y2
        replace y3 := (HB2.out.cell (World.block_lt_of_cell? w _ y3)).trans y3
        go_upto_region 7 with fail
        have hb1 := below_alloc (Below.refl w2.heap.size w2) (.cells #[.int .i64 y.f0, .int .i64 y.f1, .string y.f2, .slice B3 y.f3.length d3] 54)
        have hy1 := blk_new w2 (.cells #[.int .i64 y.f0, .int .i64 y.f1, .string y.f2, .slice B3 y.f3.length d3] 54)
        have hx2 := blk_alloc hx1 (.cells #[.int .i64 y.f0, .int .i64 y.f1, .string y.f2, .slice B3 y.f3.length d3] 54)
        generalize w2.alloc (.cells #[.int .i64 y.f0, .int .i64 y.f1, .string y.f2, .slice B3 y.f3.length d3] 54) = w3 at hb1 hx2 hy1 ⊢
        have HB3 := Aside0.mk (below_then HB2.out (below_size HB2.out) hb1)
        generalize w2.heap.size = bw at hy1 ⊢
        clear y0 y1 y2 y3 hb1 HB2 hx1
        have c0 : w3.cell? ⟨bx, 0, none⟩ = some (.int .i64 x.f0) := (blk_cell hx2 0).trans rfl
        have c1 : w3.cell? ⟨bx, 1, none⟩ = some (.int .i64 x.f1) := (blk_cell hx2 1).trans rfl
        have c2 : w3.cell? ⟨bx, 2, none⟩ = some (.string x.f2) := (blk_cell hx2 2).trans rfl
        have c3' : w3.cell? ⟨bx, 3, none⟩ = some (.slice A3 x.f3.length c3) := (blk_cell hx2 3).trans rfl
        have d0 : w3.cell? ⟨bw, 0, none⟩ = some (.int .i64 y.f0) := (blk_cell hy1 0).trans rfl
        have d1 : w3.cell? ⟨bw, 1, none⟩ = some (.int .i64 y.f1) := (blk_cell hy1 1).trans rfl
        have d2 : w3.cell? ⟨bw, 2, none⟩ = some (.string y.f2) := (blk_cell hy1 2).trans rfl
        have d3' : w3.cell? ⟨bw, 3, none⟩ = some (.slice B3 y.f3.length d3) := (blk_cell hy1 3).trans rfl
        have HRX := Aside0.mk (show Rd w3 x A3 c3 from ⟨Kd.C_below gx HB3.out, lx⟩)
        have HRY := Aside0.mk (show Rd w3 y B3 d3 from ⟨Kd.C_below gy HB3.out, ly⟩)
        clear gx gy hx2 hy1
        by_cases he : eqV x y = true
        · have HE2 : Aside0 (eqVs l m = eqVs (l.drop (i + 1)) (m.drop (i + 1))) := ⟨by rw [HE'.out, if_pos he]⟩
          go_wp2_with (go_at_call 27; go_loud ((with_reducible refine (eq_use HIx.out y A3 B3 c3 d3 _ HRX.out HRY.out).mono ?_); rintro e w4 ⟨rfl, hb⟩; rw [he]; have HB4 := Aside0.mk (below_then HB3.out (below_size HB3.out) hb); clear hb))
          go_roundw
          case rel => exact ⟨i + 1, by go_num, by omega, HE2, HB4⟩
          case measure => simp [intOf]; omega
        · have he' : eqV x y = false := Bool.eq_false_iff.mpr he
          have HE2 : Aside0 (eqVs l m = false) := ⟨by rw [HE'.out, if_neg he]⟩
          go_wp2_with (go_at_call 27; go_loud ((with_reducible refine (eq_use HIx.out y A3 B3 c3 d3 _ HRX.out HRY.out).mono ?_); rintro e w4 ⟨rfl, hb⟩; rw [he']; have HB4 := Aside0.mk (below_then HB3.out (below_size HB3.out) hb); clear hb))
          go_ret
          exact ⟨by rw [HE2.out]; rfl, HB4.out⟩
      · obtain rfl : i = l.length := by omega
        have hge : ¬ ((l.length : Int) < (l.length : Int)) := by omega
        go_wp2
        go_ret
        refine ⟨?_, HB.out⟩
        have h := HE.out
        rw [List.drop_length] at h
        rw [h]; rfl
  · have hnb : ((l.length : Int) != (m.length : Int)) = true := by simp; omega
    have hnb' : (l.length != m.length) = true := by simp [hn]
    rw [if_neg hn]
    go_enter Try.func68, Try.ntmps68
    go_wp2
    go_ret
    exact ⟨rfl, Below.refl _ _⟩
set_option maxHeartbeats 8000000 in
set_option maxRecDepth 100000 in
theorem equal_calls : ∀ x : V, EqOk x := by
  refine V_ind (fun a b s l ih => ?_)
  intro y A B c d w hx hy
  have hu := Try.underlying54
  have HX := Aside0.mk hx
  have HY := Aside0.mk hy
  have HI := Aside0.mk ih
  clear hx hy ih
  obtain ⟨y0, y1, y2, m⟩ := y
  simp only [eqV]
  have enter := True.intro
  have HB2 : ∀ o1 o2, Below w.heap.size w ((w.alloc o1).alloc o2) := fun o1 o2 => below_alloc (below_alloc (Below.refl _ _) _) _
  by_cases k0 : a = y0
  · subst k0
    have k0' : (a != a) = false := by simp
    rw [if_pos rfl]
    by_cases k1 : a = 0
    · have k1' : (a == 0) = true := by simp [k1]
      rw [if_pos k1]
      clear k1
      go_enter Try.func27, Try.ntmps27
      go_wp2
      go_ret
      exact ⟨rfl, HB2 _ _⟩
    have k1' : (a == 0) = false := by simp [k1]
    rw [if_neg k1]
    by_cases k2 : a = 1
    · have k2' : (a == 1) = true := by simp [k2]
      rw [if_pos k2]
      clear k2
      go_enter Try.func27, Try.ntmps27
      go_wp2
      go_ret
      exact ⟨rfl, HB2 _ _⟩
    have k2' : (a == 1) = false := by simp [k2]
    rw [if_neg k2]
    by_cases k3 : a = 2
    · have k3' : (a == 2) = true := by simp [k3]
      rw [if_pos k3]
      clear k3
      have HC := Aside0.mk (equalFunc_calls l m A B c d ((w.alloc (.cells #[.int .i64 a, .int .i64 b, .string s, .slice A l.length c] 54)).alloc (.cells #[.int .i64 a, .int .i64 y1, .string y2, .slice B m.length d] 54)) (Kd.C_below HX.out.1 (HB2 _ _)) HX.out.2 (Kd.C_below HY.out.1 (HB2 _ _)) HY.out.2 HI.out)
      generalize (if l.length = m.length then eqVs l m else false) = r at HC ⊢
      go_enter Try.func27, Try.ntmps27
      go_wp2_with (go_at_call 68; go_loud ((with_reducible refine HC.out.mono ?_); rintro e w4 ⟨rfl, hb⟩; have HB4 := Aside0.mk (below_then (HB2 _ _) (below_size (HB2 _ _)) hb); clear hb))
      go_ret
      exact ⟨rfl, HB4.out⟩
    · have k3' : (a == 2) = false := by simp [k3]
      rw [if_neg k3]
      go_enter Try.func27, Try.ntmps27
      go_wp2
      go_ret
      exact ⟨rfl, HB2 _ _⟩
  · have k0' : (a != y0) = true := by simp [k0]
    rw [if_neg k0]
    go_enter Try.func27, Try.ntmps27
    go_wp2
    go_ret
    exact ⟨rfl, HB2 _ _⟩
end Go.Proofs.Ytjicfkmpgogppaa.Eq
