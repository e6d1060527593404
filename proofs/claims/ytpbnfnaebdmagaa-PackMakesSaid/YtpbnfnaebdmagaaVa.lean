/-
  Values of the program and of the document: one made out of the other.
  pack.Equal: which values are alike.
-/
import Derived.Test.YtpbnfnaebdmagaaPXx0
import Derived.Test.YtpbnfnaebdmagaaPlain
import Derived.LoopTactic
import Derived.Outline
import Derived.WalkSmall
namespace Go.Proofs.Ytpbnfnaebdmagaa.Vs
set_option linter.unusedVariables false
set_option linter.unusedSimpArgs false
open Go Go.RowKit Go.Proofs.Ytpbnfnaebdmagaa.Plain Go.Proofs.Ytpbnfnaebdmagaa.PX Go.Proofs.YtpbnfnaebdmagaaW.PrintWords Go.Proofs.YtpbnfnaebdmagaaW.PrintLast Go.Proofs.YtpbnfnaebdmagaaW.PrintMore
abbrev V := S26
abbrev W := S29
mutual
def toW : V → W
  | ⟨a, b, c, l⟩ => ⟨a, b, c, toWs l⟩
def toWs : List V → List W
  | [] => []
  | x :: l => toW x :: toWs l
end
theorem toWs_map : ∀ l, toWs l = l.map toW
  | [] => rfl
  | x :: l => by simp [toWs, toWs_map l]
theorem toW_0 : ∀ x : V, (toW x).f0 = x.f0
  | ⟨a, b, c, l⟩ => by simp [toW]
theorem toW_1 : ∀ x : V, (toW x).f1 = x.f1
  | ⟨a, b, c, l⟩ => by simp [toW]
theorem toW_2 : ∀ x : V, (toW x).f2 = x.f2
  | ⟨a, b, c, l⟩ => by simp [toW]
theorem toW_3 : ∀ x : V, (toW x).f3 = toWs x.f3
  | ⟨a, b, c, l⟩ => by simp [toW]
mutual
/-- no list of more than a thousand values -/
def Small : V → Prop
  | ⟨_, _, _, l⟩ => l.length ≤ 1000 ∧ Smalls l
def Smalls : List V → Prop
  | [] => True
  | x :: l => Small x ∧ Smalls l
end
theorem Smalls_iff : ∀ l, Smalls l ↔ ∀ x ∈ l, Small x
  | [] => by simp [Smalls]
  | x :: l => by simp [Smalls, Smalls_iff l]
theorem Small_eq : ∀ x : V, Small x ↔ x.f3.length ≤ 1000 ∧ ∀ y ∈ x.f3, Small y
  | ⟨a, b, c, l⟩ => by simp [Small, Smalls_iff]
theorem V_ind {P : V → Prop} (h : ∀ a b c l, (∀ x ∈ l, P x) → P ⟨a, b, c, l⟩) : ∀ x, P x
  | ⟨a, b, c, l⟩ => h a b c l (fun x _ => V_ind h x)
theorem up_le {β : Type} {f : Nat → Option β} (hm : ∀ k, LeO (f k) (f (k + 1))) {K K' : Nat} (h : K ≤ K') {r : β} (e : f K = some r) : f K' = some r := by
  induction K' with
  | zero => rw [Nat.le_zero.mp h] at e; exact e
  | succ m ih =>
    rcases Nat.lt_or_ge m K with h1 | h1
    · rw [show K = m + 1 by omega] at e; exact e
    · exact hm m _ (ih h1)
/-- one bound for all of a list -/
theorem up_all {α : Type} {Q : Nat → α → Prop} (hm : ∀ K K' x, K ≤ K' → Q K x → Q K' x) : ∀ l : List α, (∀ x ∈ l, ∃ K, Q K x) → ∃ K, ∀ x ∈ l, Q K x
  | [], _ => ⟨0, fun _ h => by cases h⟩
  | x :: l, h => by
    obtain ⟨K, hK⟩ := h x (by simp)
    obtain ⟨K2, hK2⟩ := up_all hm l (fun y hy => h y (by simp [hy]))
    refine ⟨max K K2, fun y hy => ?_⟩
    rcases List.mem_cons.mp hy with rfl | hy
    · exact hm _ _ _ (Nat.le_max_left _ _) hK
    · exact hm _ _ _ (Nat.le_max_right _ _) (hK2 y hy)
theorem rdV (l : List V) (i : Int) (h0 : 0 ≤ i) (h1 : i < l.length) : rd_T26 l i ∈ l ∧ rd_T29 (toWs l) i = toW (rd_T26 l i) := by
  have hi : i.toNat < l.length := by omega
  unfold rd_T26 rd_T29
  rw [toWs_map]
  simp only [List.getD_eq_getElem?_getD, List.getElem?_map, List.getElem?_eq_getElem hi, Option.map_some, Option.getD_some]
  exact ⟨List.getElem_mem hi, trivial⟩
end Go.Proofs.Ytpbnfnaebdmagaa.Vs
namespace Go.Proofs.Ytpbnfnaebdmagaa.Eq
set_option linter.unusedVariables false
set_option linter.unusedSimpArgs false
open Go Go.RowKit Go.Proofs.Ytpbnfnaebdmagaa.Plain Go.Proofs.Ytpbnfnaebdmagaa.Vs Go.Proofs.Ytpbnfnaebdmagaa.PX Go.Proofs.YtpbnfnaebdmagaaW.PrintWords Go.Proofs.YtpbnfnaebdmagaaW.PrintLast Go.Proofs.YtpbnfnaebdmagaaW.PrintMore
mutual
def eqV : V → V → Bool
  | ⟨a, b, c, l⟩, y => if a = y.f0 then (if a = 0 then b == y.f1 else if a = 1 then c.toList == y.f2.toList else if a = 2 then (if l.length = y.f3.length then eqVs l y.f3 else false) else true) else false
def eqVs : List V → List V → Bool
  | [], _ => true
  | _ :: _, [] => true
  | x :: l, y :: m => if eqV x y = true then eqVs l m else false
end
/-- both values read -/
def Rd (w : World) (x : V) (A : Option Addr) (c : Nat) : Prop := Kd.C k26 w A x.f3.length x.f3 ∧ x.f3.length ≤ c
def EqOk (x : V) : Prop := ∀ (y : V) (A B : Option Addr) (c d : Nat) (w : World), Rd w x A c → Rd w y B d →
  Calls Try.prog 13 #[.agg #[.int .i64 x.f0, .int .i64 x.f1, .string x.f2, .slice A x.f3.length c], .agg #[.int .i64 y.f0, .int .i64 y.f1, .string y.f2, .slice B y.f3.length d]] w fun e w' => e = .returned (.bool (eqV x y)) ∧ Below w.heap.size w w'
theorem eq_use {x : V} (h : EqOk x) (y : V) (A B : Option Addr) (c d : Nat) (w : World) (hx : Rd w x A c) (hy : Rd w y B d) :
    Calls Try.prog 13 #[.agg #[.int .i64 x.f0, .int .i64 x.f1, .string x.f2, .slice A x.f3.length c], .agg #[.int .i64 y.f0, .int .i64 y.f1, .string y.f2, .slice B y.f3.length d]] w fun e w' => e = .returned (.bool (eqV x y)) ∧ Below w.heap.size w w' := h y A B c d w hx hy
set_option maxHeartbeats 8000000 in
set_option maxRecDepth 100000 in
theorem equalFunc_calls (l m : List V) (A B : Option Addr) (c d : Nat) (w : World) (hl : Kd.C k26 w A l.length l) (hc : l.length ≤ c) (hm : Kd.C k26 w B m.length m) (hd : m.length ≤ d) (ih : ∀ x ∈ l, EqOk x) :
    Calls Try.prog 25 #[.slice A l.length c, .slice B m.length d, .func (.func 13) #[] #[]] w fun e w' => e = .returned (.bool (if l.length = m.length then eqVs l m else false)) ∧ Below w.heap.size w w' := by
  have hu := Try.underlying26
  have HL := Aside0.mk hl
  have HM := Aside0.mk hm
  have HC := Aside0.mk hc
  have HD := Aside0.mk hd
  have HI := Aside0.mk ih
  have hl63 : (l.length : Int) ≤ 9223372036854775807 := by have := hl.2.1; omega
  clear hl hm hc hd ih
  by_cases hn : l.length = m.length
  · have hnb : ((l.length : Int) != (m.length : Int)) = false := by simp [hn]
    have hnb' : (l.length != m.length) = false := by simp [hn]
    rw [if_pos hn]
    have HN := Aside0.mk hn
    clear hn
    go_enter Try.func25, Try.ntmps25
    go_wp2
    go_loopw [17] (fun v17 wr => ∃ i : Nat, v17 = .int .i64 (i : Int) ∧ i ≤ l.length ∧ Aside0 (eqVs l m = eqVs (l.drop i) (m.drop i)) ∧ Aside0 (Below w.heap.size w wr)) (fun v17 _ => l.length - (intOf v17).toNat)
    case atStart => exact ⟨0, rfl, Nat.zero_le _, ⟨by simp⟩, ⟨Below.refl _ _⟩⟩
    case round =>
      obtain ⟨i, rfl, hi, HE, HB⟩ := hrel
      by_cases hlt : i < l.length
      · obtain ⟨ad, A3, c3, rfl, x0, x1, x2, x3, lx, gx⟩ := at_T26 HL.out (i : Int) (by omega) (by omega)
        obtain ⟨ae, B3, d3, rfl, y0, y1, y2, y3, ly, gy⟩ := at_T26 HM.out (i : Int) (by omega) (by have := HN.out; omega)
        have hm1 : i < m.length := by have := HN.out; omega
        have rx : rd_T26 l (i : Int) = l[i] := by
          unfold rd_T26
          rw [Int.toNat_natCast, List.getD_eq_getElem?_getD, List.getElem?_eq_getElem hlt, Option.getD_some]
        have ry : rd_T26 m (i : Int) = m[i] := by
          unfold rd_T26
          rw [Int.toNat_natCast, List.getD_eq_getElem?_getD, List.getElem?_eq_getElem hm1, Option.getD_some]
        rw [rx, Int.toNat_natCast] at x0 x1 x2 x3
        rw [rx] at lx gx
        rw [ry, Int.toNat_natCast] at y0 y1 y2 y3
        rw [ry] at ly gy
        have hmem : l[i] ∈ l := List.getElem_mem hlt
        have hstep : eqVs (l.drop i) (m.drop i) = if eqV l[i] m[i] = true then eqVs (l.drop (i + 1)) (m.drop (i + 1)) else false := by
          rw [List.drop_eq_getElem_cons hlt, List.drop_eq_getElem_cons hm1]
          simp only [eqVs]
        have HE' : Aside0 (eqVs l m = if eqV l[i] m[i] = true then eqVs (l.drop (i + 1)) (m.drop (i + 1)) else false) := ⟨HE.out.trans hstep⟩
        have HIx := Aside0.mk (HI.out l[i] hmem)
        clear hstep HE rx ry hmem
        generalize l[i] = x at x0 x1 x2 x3 lx gx HIx HE'
        generalize m[i] = y at y0 y1 y2 y3 ly gy HE'
        replace x0 := (HB.out.cell (World.block_lt_of_cell? w _ x0)).trans x0
        replace x1 := (HB.out.cell (World.block_lt_of_cell? w _ x1)).trans x1
        replace x2 := (HB.out.cell (World.block_lt_of_cell? w _ x2)).trans x2
        replace x3 := (HB.out.cell (World.block_lt_of_cell? w _ x3)).trans x3
        have hli : (i : Int) < (l.length : Int) := by omega
        have hmi : (i : Int) < (m.length : Int) := by omega
        have hi0 : (0 : Int) ≤ (i : Int) := by omega
        go_upto_region 6 with fail
        have hb1 := below_alloc (Below.refl wr.heap.size wr) (.cells #[.int .i64 x.f0, .int .i64 x.f1, .string x.f2, .slice A3 x.f3.length c3] 26)
        have hx1 := blk_new wr (.cells #[.int .i64 x.f0, .int .i64 x.f1, .string x.f2, .slice A3 x.f3.length c3] 26)
        generalize wr.alloc (.cells #[.int .i64 x.f0, .int .i64 x.f1, .string x.f2, .slice A3 x.f3.length c3] 26) = w2 at hb1 hx1 ⊢
        have HB2 := Aside0.mk (below_then HB.out (below_size HB.out) hb1)
        generalize wr.heap.size = bx at hx1 ⊢
        clear x0 x1 x2 x3 hb1 HB
        replace y0 := (HB2.out.cell (World.block_lt_of_cell? w _ y0)).trans y0
        replace y1 := (HB2.out.cell (World.block_lt_of_cell? w _ y1)).trans y1
        replace y2 := (HB2.out.cell (World.block_lt_of_cell? w _ y2)).trans y2
        replace y3 := (HB2.out.cell (World.block_lt_of_cell? w _ y3)).trans y3
        go_upto_region 7 with fail
        have hb1 := below_alloc (Below.refl w2.heap.size w2) (.cells #[.int .i64 y.f0, .int .i64 y.f1, .string y.f2, .slice B3 y.f3.length d3] 26)
        have hy1 := blk_new w2 (.cells #[.int .i64 y.f0, .int .i64 y.f1, .string y.f2, .slice B3 y.f3.length d3] 26)
        have hx2 := blk_alloc hx1 (.cells #[.int .i64 y.f0, .int .i64 y.f1, .string y.f2, .slice B3 y.f3.length d3] 26)
        generalize w2.alloc (.cells #[.int .i64 y.f0, .int .i64 y.f1, .string y.f2, .slice B3 y.f3.length d3] 26) = w3 at hb1 hx2 hy1 ⊢
        have HB3 := Aside0.mk (below_then HB2.out (below_size HB2.out) hb1)
        generalize w2.heap.size = bw at hy1 ⊢
        clear y0 y1 y2 y3 hb1 HB2 hx1
        have c0 : w3.cell? ⟨bx, 0, none⟩ = some (.int .i64 x.f0) := (blk_cell hx2 0).trans rfl
        have c1 : w3.cell? ⟨bx, 1, none⟩ = some (.int .i64 x.f1) := (blk_cell hx2 1).trans rfl
        have c2 : w3.cell? ⟨bx, 2, none⟩ = some (.string x.f2) := (blk_cell hx2 2).trans rfl
        have c3' : w3.cell? ⟨bx, 3, none⟩ = some (.slice A3 x.f3.length c3) := (blk_cell hx2 3).trans rfl
        have d0 : w3.cell? ⟨bw, 0, none⟩ = some (.int .i64 y.f0) := (blk_cell hy1 0).trans rfl
        have d1 : w3.cell? ⟨bw, 1, none⟩ = some (.int .i64 y.f1) := (blk_cell hy1 1).trans rfl
        have d2 : w3.cell? ⟨bw, 2, none⟩ = some (.string y.f2) := (blk_cell hy1 2).trans rfl
        have d3' : w3.cell? ⟨bw, 3, none⟩ = some (.slice B3 y.f3.length d3) := (blk_cell hy1 3).trans rfl
        have HRX := Aside0.mk (show Rd w3 x A3 c3 from ⟨Kd.C_below gx HB3.out, lx⟩)
        have HRY := Aside0.mk (show Rd w3 y B3 d3 from ⟨Kd.C_below gy HB3.out, ly⟩)
        clear gx gy hx2 hy1
        by_cases he : eqV x y = true
        · have HE2 : Aside0 (eqVs l m = eqVs (l.drop (i + 1)) (m.drop (i + 1))) := ⟨by rw [HE'.out, if_pos he]⟩
          go_wp2_with (go_at_call 13; go_loud ((with_reducible refine (eq_use HIx.out y A3 B3 c3 d3 _ HRX.out HRY.out).mono ?_); rintro e w4 ⟨rfl, hb⟩; rw [he]; have HB4 := Aside0.mk (below_then HB3.out (below_size HB3.out) hb); clear hb))
          go_roundw
          case rel => exact ⟨i + 1, by go_num, by omega, HE2, HB4⟩
          case measure => simp [intOf]; omega
        · have he' : eqV x y = false := Bool.eq_false_iff.mpr he
          have HE2 : Aside0 (eqVs l m = false) := ⟨by rw [HE'.out, if_neg he]⟩
          go_wp2_with (go_at_call 13; go_loud ((with_reducible refine (eq_use HIx.out y A3 B3 c3 d3 _ HRX.out HRY.out).mono ?_); rintro e w4 ⟨rfl, hb⟩; rw [he']; have HB4 := Aside0.mk (below_then HB3.out (below_size HB3.out) hb); clear hb))
          go_ret
          exact ⟨by rw [HE2.out]; rfl, HB4.out⟩
      · obtain rfl : i = l.length := by omega
        have hge : ¬ ((l.length : Int) < (l.length : Int)) := by omega
        go_wp2
        go_ret
        refine ⟨?_, HB.out⟩
        have h := HE.out
        rw [List.drop_length] at h
        rw [h]; rfl
  · have hnb : ((l.length : Int) != (m.length : Int)) = true := by simp; omega
    have hnb' : (l.length != m.length) = true := by simp [hn]
    rw [if_neg hn]
    go_enter Try.func25, Try.ntmps25
    go_wp2
    go_ret
    exact ⟨rfl, Below.refl _ _⟩
set_option maxHeartbeats 8000000 in
set_option maxRecDepth 100000 in
theorem equal_calls : ∀ x : V, EqOk x := by
  refine V_ind (fun a b s l ih => ?_)
  intro y A B c d w hx hy
  have hu := Try.underlying26
  have HX := Aside0.mk hx
  have HY := Aside0.mk hy
  have HI := Aside0.mk ih
  clear hx hy ih
  obtain ⟨y0, y1, y2, m⟩ := y
  simp only [eqV]
  have enter := True.intro
  have HB2 : ∀ o1 o2, Below w.heap.size w ((w.alloc o1).alloc o2) := fun o1 o2 => below_alloc (below_alloc (Below.refl _ _) _) _
  by_cases k0 : a = y0
  · subst k0
    have k0' : (a != a) = false := by simp
    rw [if_pos rfl]
    by_cases k1 : a = 0
    · have k1' : (a == 0) = true := by simp [k1]
      rw [if_pos k1]
      clear k1
      go_enter Try.func13, Try.ntmps13
      go_wp2
      go_ret
      exact ⟨rfl, HB2 _ _⟩
    have k1' : (a == 0) = false := by simp [k1]
    rw [if_neg k1]
    by_cases k2 : a = 1
    · have k2' : (a == 1) = true := by simp [k2]
      rw [if_pos k2]
      clear k2
      go_enter Try.func13, Try.ntmps13
      go_wp2
      go_ret
      exact ⟨rfl, HB2 _ _⟩
    have k2' : (a == 1) = false := by simp [k2]
    rw [if_neg k2]
    by_cases k3 : a = 2
    · have k3' : (a == 2) = true := by simp [k3]
      rw [if_pos k3]
      clear k3
      have HC := Aside0.mk (equalFunc_calls l m A B c d ((w.alloc (.cells #[.int .i64 a, .int .i64 b, .string s, .slice A l.length c] 26)).alloc (.cells #[.int .i64 a, .int .i64 y1, .string y2, .slice B m.length d] 26)) (Kd.C_below HX.out.1 (HB2 _ _)) HX.out.2 (Kd.C_below HY.out.1 (HB2 _ _)) HY.out.2 HI.out)
      generalize (if l.length = m.length then eqVs l m else false) = r at HC ⊢
      go_enter Try.func13, Try.ntmps13
      go_wp2_with (go_at_call 25; go_loud ((with_reducible refine HC.out.mono ?_); rintro e w4 ⟨rfl, hb⟩; have HB4 := Aside0.mk (below_then (HB2 _ _) (below_size (HB2 _ _)) hb); clear hb))
      go_ret
      exact ⟨rfl, HB4.out⟩
    · have k3' : (a == 2) = false := by simp [k3]
      rw [if_neg k3]
      go_enter Try.func13, Try.ntmps13
      go_wp2
      go_ret
      exact ⟨rfl, HB2 _ _⟩
  · have k0' : (a != y0) = true := by simp [k0]
    rw [if_neg k0]
    go_enter Try.func13, Try.ntmps13
    go_wp2
    go_ret
    exact ⟨rfl, HB2 _ _⟩
end Go.Proofs.Ytpbnfnaebdmagaa.Eq
