/-
  graph.node, walked: the node that a value is.
-/
import Derived.Test.YtjicfkmpgogppaaH0
import Derived.Test.YtjicfkmpgogppaaH1
import Derived.LoopTactic
import Derived.Outline
import Derived.WalkSmall
namespace Go.Proofs.Ytjicfkmpgogppaa.Gn
set_option linter.unusedVariables false
set_option linter.unusedSimpArgs false
open Go Go.RowKit Go.Proofs.Ytjicfkmpgogppaa.Plain Go.Proofs.Ytjicfkmpgogppaa.Vs Go.Proofs.Ytjicfkmpgogppaa.Gv Go.Proofs.Ytjicfkmpgogppaa.PA Go.Proofs.YtjicfkmpgogppaaW.PrintWords Go.Proofs.YtjicfkmpgogppaaW.PrintLast Go.Proofs.YtjicfkmpgogppaaW.PrintMore
def Post (w : World) (r : ByteArray × List ByteArray × Int × Int × Int × ByteArray × Bool) (e : Ending) (w' : World) : Prop := ∃ u, e = .returned (.tuple #[.agg #[.string r.1, u, .int .i64 r.2.2.1, .int .i64 r.2.2.2.1, .int .i64 r.2.2.2.2.1, .string r.2.2.2.2.2.1], .bool r.2.2.2.2.2.2]) ∧ Kd.R Kd.string 9 w' w.heap.size (fun _ => True) u r.2.1 ∧ Below w.heap.size w w'
theorem post_bad {w w' : World} {r : ByteArray × List ByteArray × Int × Int × Int × ByteArray × Bool} (hr : r = nodeT none) (hb : Below w.heap.size w w') : Post w r (.returned (.tuple #[.agg #[.string E0, .slice none 0 0, .int .i64 0, .int .i64 0, .int .i64 0, .string E0], .bool false])) w' := by
  subst hr
  exact ⟨_, rfl, Kd.R_nil _ _ _ _ _, hb⟩
structure Env (w wr : World) (v : V) (A : Option Addr) (c g1 g2 : Nat) : Prop where
  HB : Below w.heap.size w wr
  B1 : wr.heap[g1]? = some (.cells #[.int .i64 v.f0, .int .i64 v.f1, .string v.f2, .slice A v.f3.length c] 54 (0, 0))
  B2 : wr.heap[g2]? = some (.cells #[.string E0, .slice none 0 0, .int .i64 0, .int .i64 0, .int .i64 0, .string E0] 48 (0, 0))
theorem Env.go {w wr w1 : World} {v : V} {A : Option Addr} {c g1 g2 : Nat} (h : Env w wr v A c g1 g2) (hb : Below wr.heap.size wr w1) : Env w w1 v A c g1 g2 := ⟨below_then h.HB h.HB.size hb, blk_below h.B1 hb, blk_below h.B2 hb⟩
theorem Env.far {w wr : World} {v : V} {A : Option Addr} {c g1 g2 g : Nat} (h : Env w wr v A c g1 g2) (hg : w.heap.size ≤ g ∧ g1 < g ∧ g2 < g) (j : Nat) (u : Value) : Env w (wr.setCell ⟨g, j, none⟩ u) v A c g1 g2 := ⟨below_set h.HB hg.1, blk_far h.B1 (by simp; omega) u, blk_far h.B2 (by simp; omega) u⟩
theorem Env.grown {w wr w1 : World} {v : V} {A : Option Addr} {c g1 g2 : Nat} {row : Option Nat} (h : Env w wr v A c g1 g2) (hb : Below w.heap.size w w1) (hg : wr.grownBy w1 row) (hn : ∀ k, row = some k → g1 < k ∧ g2 < k) : Env w w1 v A c g1 g2 := ⟨hb, blk_grown h.B1 hg (fun e => by have := hn _ e.symm; omega), blk_grown h.B2 hg (fun e => by have := hn _ e.symm; omega)⟩
def set6 (w : World) (g : Nat) (a b c d e f : Value) : World := (((((w.setCell ⟨g, 0, none⟩ a).setCell ⟨g, 1, none⟩ b).setCell ⟨g, 2, none⟩ c).setCell ⟨g, 3, none⟩ d).setCell ⟨g, 4, none⟩ e).setCell ⟨g, 5, none⟩ f
theorem set6_v {w : World} {g t : Nat} {x0 x1 x2 x3 x4 x5 : Value} (h : w.heap[g]? = some (.cells #[x0, x1, x2, x3, x4, x5] t (0, 0))) (a b c d e f : Value) : (set6 w g a b c d e f).heap[g]? = some (.cells #[a, b, c, d, e, f] t (0, 0)) := by
  unfold set6
  refine blk_put (cs := #[a, b, c, d, e, x5]) ?_ 5 _ rfl
  refine blk_put (cs := #[a, b, c, d, x4, x5]) ?_ 4 _ rfl
  refine blk_put (cs := #[a, b, c, x3, x4, x5]) ?_ 3 _ rfl
  refine blk_put (cs := #[a, b, x2, x3, x4, x5]) ?_ 2 _ rfl
  refine blk_put (cs := #[a, x1, x2, x3, x4, x5]) ?_ 1 _ rfl
  exact blk_put (cs := #[x0, x1, x2, x3, x4, x5]) h 0 _ rfl
theorem set6_o {w : World} {g h : Nat} (hn : h ≠ g) (a b c d e f : Value) : (set6 w g a b c d e f).heap[h]? = w.heap[h]? := by
  unfold set6
  rw [Below.heap_setCell _ _ _ _ hn, Below.heap_setCell _ _ _ _ hn, Below.heap_setCell _ _ _ _ hn, Below.heap_setCell _ _ _ _ hn, Below.heap_setCell _ _ _ _ hn, Below.heap_setCell _ _ _ _ hn]
theorem set6_below {w wr : World} {g : Nat} (h : Below w.heap.size w wr) (hg : w.heap.size ≤ g) (a b c d e f : Value) : Below w.heap.size w (set6 wr g a b c d e f) := below_set (below_set (below_set (below_set (below_set (below_set h hg) hg) hg) hg) hg) hg
theorem Env.set6 {w wr : World} {v : V} {A : Option Addr} {c g1 g2 g : Nat} (h : Env w wr v A c g1 g2) (hg : w.heap.size ≤ g ∧ g1 < g ∧ g2 < g) (a b c' d e f : Value) : Env w (Gn.set6 wr g a b c' d e f) v A c g1 g2 := (((((h.far hg 0 a).far hg 1 b).far hg 2 c').far hg 3 d).far hg 4 e).far hg 5 f
theorem ad0 (a : Addr) : a.add 0 = a := by unfold Addr.add; simp
theorem ad4 (a : Addr) : a.add 4 = ⟨a.block, a.off + 4, none⟩ := by unfold Addr.add; simp
theorem ad8 (a : Addr) : a.add 8 = ⟨a.block, a.off + 8, none⟩ := by unfold Addr.add; simp
theorem ad12 (a : Addr) : a.add 12 = ⟨a.block, a.off + 12, none⟩ := by unfold Addr.add; simp
theorem ad16 (a : Addr) : a.add 16 = ⟨a.block, a.off + 16, none⟩ := by unfold Addr.add; simp
theorem ad20 (a : Addr) : a.add 20 = ⟨a.block, a.off + 20, none⟩ := by unfold Addr.add; simp
theorem six {l : List V} (h : l.length = 6) : ∃ v0 v1 v2 v3 v4 v5, l = [v0, v1, v2, v3, v4, v5] := by
  match l, h with
  | [v0, v1, v2, v3, v4, v5], _ => exact ⟨v0, v1, v2, v3, v4, v5, rfl⟩
theorem at1 {w : World} {A : Option Addr} {n : Nat} {xs : List V} (h : Kd.C k54 w A n xs) (i : Nat) (h1 : i < n) (hl : i < xs.length) : ∃ ad A3 c3, A = some ad ∧ w.cell? (ad.add (i * 4)) = some (.int .i64 xs[i].f0) ∧ w.cell? ⟨(ad.add (i * 4)).block, (ad.add (i * 4)).off + 1, none⟩ = some (.int .i64 xs[i].f1) ∧ w.cell? ⟨(ad.add (i * 4)).block, (ad.add (i * 4)).off + 2, none⟩ = some (.string xs[i].f2) ∧ w.cell? ⟨(ad.add (i * 4)).block, (ad.add (i * 4)).off + 3, none⟩ = some (.slice A3 xs[i].f3.length c3) ∧ xs[i].f3.length ≤ c3 ∧ Kd.C k54 w A3 xs[i].f3.length xs[i].f3 := by
  obtain ⟨ad, A3, c3, e, x⟩ := at_T54 h (i : Int) (by omega) (by omega)
  rw [rdV_nat xs i hl, Int.toNat_natCast] at x
  exact ⟨ad, A3, c3, e, x⟩
theorem kinds_row {W1 : World} {g t : Nat} (h : W1.heap[g]? = some (.cells #[.int .i64 1, .int .i64 2, .int .i64 0, .int .i64 0, .int .i64 0, .int .i64 1] t (0, 0))) : Kd.C (Kd.int .i64) W1 (some ⟨g, 0, none⟩) ([1, 2, 0, 0, 0, 1] : List Int).length [1, 2, 0, 0, 0, 1] := by
  have hadd : ∀ n : Nat, (⟨g, 0, none⟩ : Addr).add n = ⟨g, n, none⟩ := fun n => by unfold Addr.add; split <;> simp_all
  refine ⟨rfl, by decide, fun _ => ⟨⟨g, 0, none⟩, rfl, fun j p hj => ⟨[.int .i64 p], rfl, rfl, fun i u hi => ?_⟩⟩⟩
  obtain rfl : i = 0 := by
    cases i with
    | zero => rfl
    | succ i => simp at hi
  obtain rfl : Value.int .i64 p = u := by simpa using hi
  rw [hadd, blk_cell h]
  have e : (j * (Kd.int .i64).sz + 0) = j := by show j * 1 + 0 = j; omega
  rw [e]
  match j, hj with
  | 0, hj => obtain rfl : (1 : Int) = p := by simpa using hj
             rfl
  | 1, hj => obtain rfl : (2 : Int) = p := by simpa using hj
             rfl
  | 2, hj => obtain rfl : (0 : Int) = p := by simpa using hj
             rfl
  | 3, hj => obtain rfl : (0 : Int) = p := by simpa using hj
             rfl
  | 4, hj => obtain rfl : (0 : Int) = p := by simpa using hj
             rfl
  | 5, hj => obtain rfl : (1 : Int) = p := by simpa using hj
             rfl
  | j + 6, hj => simp at hj
theorem small_any (n : Int) : graph_small.f n = some (inr n) := by
  unfold graph_small.f inr
  by_cases h : n ≥ -2147483648
  · rw [if_pos h]; congr 1; rw [decide_eq_decide]; omega
  · rw [if_neg h, decide_eq_false (by omega)]
theorem node_no {v : V} (h : ¬ shapedB v.f0 v.f3 [1, 2, 0, 0, 0, 1] = true) : nodeT (nodeR v) = nodeT none := by unfold nodeR; rw [if_neg h]
theorem node_s {v m0 m1 m2 m3 m4 m5 : V} (hx : v.f3 = [m0, m1, m2, m3, m4, m5]) (h : ¬ (inr m2.f1 = true ∧ inr m4.f1 = true)) : nodeT (nodeR v) = nodeT none := by
  have e2 : at_ v 2 = m2 := by show v.f3.getD 2 _ = m2; rw [hx]; rfl
  have e4 : at_ v 4 = m4 := by show v.f3.getD 4 _ = m4; rw [hx]; rfl
  unfold nodeR
  rw [e2, e4, if_neg h]
  split <;> rfl
theorem node_t {v m0 m1 m2 m3 m4 m5 : V} (hx : v.f3 = [m0, m1, m2, m3, m4, m5]) (h : ¬ textsB m1.f3 = true) : nodeT (nodeR v) = nodeT none := by
  have e1 : at_ v 1 = m1 := by show v.f3.getD 1 _ = m1; rw [hx]; rfl
  unfold nodeR
  rw [e1, if_neg h]
  split
  · split <;> rfl
  · rfl
theorem node_y {v m0 m1 m2 m3 m4 m5 : V} (hx : v.f3 = [m0, m1, m2, m3, m4, m5]) (hk : shapedB v.f0 v.f3 [1, 2, 0, 0, 0, 1] = true) (hs : inr m2.f1 = true ∧ inr m4.f1 = true) (ht : textsB m1.f3 = true) : nodeT (nodeR v) = (m0.f2, m1.f3.map (·.f2), m2.f1, m3.f1, m4.f1, m5.f2, true) := by
  have e0 : at_ v 0 = m0 := by show v.f3.getD 0 _ = m0; rw [hx]; rfl
  have e1 : at_ v 1 = m1 := by show v.f3.getD 1 _ = m1; rw [hx]; rfl
  have e2 : at_ v 2 = m2 := by show v.f3.getD 2 _ = m2; rw [hx]; rfl
  have e3 : at_ v 3 = m3 := by show v.f3.getD 3 _ = m3; rw [hx]; rfl
  have e4 : at_ v 4 = m4 := by show v.f3.getD 4 _ = m4; rw [hx]; rfl
  have e5 : at_ v 5 = m5 := by show v.f3.getD 5 _ = m5; rw [hx]; rfl
  unfold nodeR
  rw [e0, e1, e2, e3, e4, e5, if_pos hk, if_pos hs, if_pos ht]
  rfl
set_option maxHeartbeats 8000000 in
set_option maxRecDepth 100000 in
theorem node_walk (v : V) (A : Option Addr) (c : Nat) (w : World) (hC : Kd.C k54 w A v.f3.length v.f3) (hc : v.f3.length ≤ c) (hlim : ∀ y ∈ v.f3, y.f3.length ≤ 1000000) (K : Nat) (hsh : graph_shaped.f K v.f0 v.f1 v.f2 v.f3 [1, 2, 0, 0, 0, 1] = some (shapedB v.f0 v.f3 [1, 2, 0, 0, 0, 1])) :
    Calls Try.prog 62 #[.agg #[.int .i64 v.f0, .int .i64 v.f1, .string v.f2, .slice A v.f3.length c]] w (Post w (nodeT (nodeR v))) := by
  have hu1 := Try.underlying54
  have hu2 := Try.underlying48
  have HL := Aside0.mk hlim
  have HC := Aside0.mk hC
  have Hc := Aside0.mk hc
  have HSH := Aside0.mk hsh
  clear hC hc hlim hsh
  obtain ⟨R, hR⟩ : ∃ R, nodeT (nodeR v) = R := ⟨_, rfl⟩
  rw [hR]
  have HR := Aside0.mk hR
  clear hR
  go_enter Try.func62, Try.ntmps62
  go_upto_region 1 with fail
  have hsz1 : (w.alloc (.cells #[.int .i64 v.f0, .int .i64 v.f1, .string v.f2, .slice A v.f3.length c] 54)).heap.size = w.heap.size + 1 := Array.size_push _
  have hE := (show Env w ((w.alloc (.cells #[.int .i64 v.f0, .int .i64 v.f1, .string v.f2, .slice A v.f3.length c] 54)).alloc (.cells #[.string E0, .slice none 0 0, .int .i64 0, .int .i64 0, .int .i64 0, .string E0] 48)) v A c w.heap.size (w.heap.size + 1) from ⟨below_alloc (below_alloc (Below.refl _ _) _) _, blk_alloc (blk_new w _) _, by rw [← hsz1]; exact blk_new _ _⟩)
  clear hsz1
  generalize (w.alloc (.cells #[.int .i64 v.f0, .int .i64 v.f1, .string v.f2, .slice A v.f3.length c] 54)).alloc (.cells #[.string E0, .slice none 0 0, .int .i64 0, .int .i64 0, .int .i64 0, .string E0] 48) = w3 at hE ⊢
  obtain ⟨g1, hG1⟩ : ∃ g, w.heap.size = g := ⟨_, rfl⟩
  obtain ⟨g2, hG2⟩ : ∃ g, g1 + 1 = g := ⟨_, rfl⟩
  rw [hG1, hG2] at hE ⊢
  have gt1 : w.heap.size ≤ g1 := Nat.le_of_eq hG1
  have gt2 : g1 < g2 := by omega
  have HE := Aside0.mk hE
  have OKX := Aside0.mk (show Below w3.heap.size w3 (w3.alloc (.cells #[.int .i64 1, .int .i64 2, .int .i64 0, .int .i64 0, .int .i64 0, .int .i64 1] 51)) from below_alloc (Below.refl _ _) _)
  clear hG1 hG2 hE
  have c0 : w3.cell? ⟨g1, 0, none⟩ = some (.int .i64 v.f0) := (blk_cell HE.out.B1 0).trans rfl
  have c1 : w3.cell? ⟨g1, 1, none⟩ = some (.int .i64 v.f1) := (blk_cell HE.out.B1 1).trans rfl
  have c2 : w3.cell? ⟨g1, 2, none⟩ = some (.string v.f2) := (blk_cell HE.out.B1 2).trans rfl
  have c3 : w3.cell? ⟨g1, 3, none⟩ = some (.slice A v.f3.length c) := (blk_cell HE.out.B1 3).trans rfl
  have HKR := Aside0.mk (kinds_row (blk_new w3 (.cells #[.int .i64 1, .int .i64 2, .int .i64 0, .int .i64 0, .int .i64 0, .int .i64 1] 51)))
  have HCV := Aside0.mk (Kd.C_below (Kd.C_below HC.out HE.out.HB) OKX.out)
  have HSC := Aside0.mk (show Calls Try.prog 61 #[.agg #[.int .i64 v.f0, .int .i64 v.f1, .string v.f2, .slice A v.f3.length c], .slice (some ⟨w3.heap.size, 0, none⟩) 6 6] (w3.alloc (.cells #[.int .i64 1, .int .i64 2, .int .i64 0, .int .i64 0, .int .i64 0, .int .i64 1] 51)) (fun e w' => e = .returned (.bool (shapedB v.f0 v.f3 [1, 2, 0, 0, 0, 1])) ∧ Below (w3.alloc (.cells #[.int .i64 1, .int .i64 2, .int .i64 0, .int .i64 0, .int .i64 0, .int .i64 1] 51)).heap.size (w3.alloc (.cells #[.int .i64 1, .int .i64 2, .int .i64 0, .int .i64 0, .int .i64 0, .int .i64 1] 51)) w') from graph_shaped.calls K v.f0 v.f1 v.f2 A c v.f3 (some ⟨w3.heap.size, 0, none⟩) 6 [1, 2, 0, 0, 0, 1] (shapedB v.f0 v.f3 [1, 2, 0, 0, 0, 1]) _ HCV.out Hc.out HKR.out (Nat.le_refl _) HSH.out)
  by_cases hs : shapedB v.f0 v.f3 [1, 2, 0, 0, 0, 1] = true
  case neg =>
    have HS := Aside0.mk hs
    replace hs := Bool.eq_false_iff.2 hs
    go_wp2_with (first | (go_at_call 61; go_loud ((with_reducible refine HSC.out.mono ?_); rintro e wq ⟨rfl, hb⟩; have HQ := Aside0.mk (HE.out.go (below_then OKX.out OKX.out.size hb)); clear hb; have z0 : wq.cell? ⟨g2, 0, none⟩ = some (.string E0) := (blk_cell HQ.out.B2 0).trans rfl; have y0 := blk_frozen HQ.out.B2 0; have z1 : wq.cell? ⟨g2, 1, none⟩ = some (.slice none 0 0) := (blk_cell HQ.out.B2 1).trans rfl; have y1 := blk_frozen HQ.out.B2 1; have z2 : wq.cell? ⟨g2, 2, none⟩ = some (.int .i64 0) := (blk_cell HQ.out.B2 2).trans rfl; have y2 := blk_frozen HQ.out.B2 2; have z3 : wq.cell? ⟨g2, 3, none⟩ = some (.int .i64 0) := (blk_cell HQ.out.B2 3).trans rfl; have y3 := blk_frozen HQ.out.B2 3; have z4 : wq.cell? ⟨g2, 4, none⟩ = some (.int .i64 0) := (blk_cell HQ.out.B2 4).trans rfl; have y4 := blk_frozen HQ.out.B2 4; have z5 : wq.cell? ⟨g2, 5, none⟩ = some (.string E0) := (blk_cell HQ.out.B2 5).trans rfl; have y5 := blk_frozen HQ.out.B2 5)))
    refine bodyPost_ret (results_ct rfl _ _ g2 48 #[.string E0, .slice none 0 0, .int .i64 0, .int .i64 0, .int .i64 0, .string E0] (0, 0) _ rfl (set6_v HQ.out.B2 _ _ _ _ _ _) hu2 rfl (by kernel_rfl)) rfl ?_
    exact post_bad (HR.out.symm.trans (node_no HS.out)) (set6_below HQ.out.HB (by omega) _ _ _ _ _ _)
  have HS := Aside0.mk hs
  have hl6 : v.f3.length = 6 := by
    have := congrArg List.length (of_decide_eq_true hs).2
    simpa using this
  obtain ⟨m0, m1, m2, m3, m4, m5, hx⟩ := six hl6
  have HX := Aside0.mk hx
  have H6 := Aside0.mk hl6
  have hC2 := HC.out
  rw [hx] at hC2
  clear hx hl6
  obtain ⟨af, D0, e0, e, _, _, s02, _, _, _⟩ := at1 hC2 0 (by simp) (by simp)
  cases e
  obtain ⟨_, D1, e1, e, _, _, _, s13, l1, g1_⟩ := at1 hC2 1 (by simp) (by simp)
  cases e
  obtain ⟨_, D2, e2, e, _, s21, _, _, _, _⟩ := at1 hC2 2 (by simp) (by simp)
  cases e
  obtain ⟨_, D3, e3, e, _, s31, _, _, _, _⟩ := at1 hC2 3 (by simp) (by simp)
  cases e
  obtain ⟨_, D4, e4, e, _, s41, _, _, _, _⟩ := at1 hC2 4 (by simp) (by simp)
  cases e
  obtain ⟨_, D5, e5, e, _, _, s52, _, _, _⟩ := at1 hC2 5 (by simp) (by simp)
  cases e
  clear hC2
  simp only [List.getElem_cons_zero, List.getElem_cons_succ, Nat.zero_mul, Nat.one_mul, Nat.reduceMul, ad0, ad4, ad8, ad12, ad16, ad20] at s02 s13 s21 s31 s41 s52
  have HT := Aside0.mk (show Kd.C k54 w D1 m1.f3.length m1.f3 from g1_)
  clear g1_ l1
  have q2 : (2 : Int) < (v.f3.length : Int) := by have := H6.out; omega
  have q4 : (4 : Int) < (v.f3.length : Int) := by have := H6.out; omega
  have S02 := Aside0.mk s02
  have S13 := Aside0.mk s13
  have S21 := Aside0.mk s21
  have S31 := Aside0.mk s31
  have S41 := Aside0.mk s41
  have S52 := Aside0.mk s52
  clear s02 s13 s31 s52 s21 s41
  by_cases hs2 : inr m2.f1 = true
  case neg =>
    have HS2 := Aside0.mk hs2
    replace hs2 := Bool.eq_false_iff.2 hs2
    go_wp2_with (first | (go_at_call 61; go_loud ((with_reducible refine HSC.out.mono ?_); rintro e wq ⟨rfl, hb⟩; have HQ := Aside0.mk (HE.out.go (below_then OKX.out OKX.out.size hb)); clear hb; have z0 : wq.cell? ⟨g2, 0, none⟩ = some (.string E0) := (blk_cell HQ.out.B2 0).trans rfl; have y0 := blk_frozen HQ.out.B2 0; have z1 : wq.cell? ⟨g2, 1, none⟩ = some (.slice none 0 0) := (blk_cell HQ.out.B2 1).trans rfl; have y1 := blk_frozen HQ.out.B2 1; have z2 : wq.cell? ⟨g2, 2, none⟩ = some (.int .i64 0) := (blk_cell HQ.out.B2 2).trans rfl; have y2 := blk_frozen HQ.out.B2 2; have z3 : wq.cell? ⟨g2, 3, none⟩ = some (.int .i64 0) := (blk_cell HQ.out.B2 3).trans rfl; have y3 := blk_frozen HQ.out.B2 3; have z4 : wq.cell? ⟨g2, 4, none⟩ = some (.int .i64 0) := (blk_cell HQ.out.B2 4).trans rfl; have y4 := blk_frozen HQ.out.B2 4; have z5 : wq.cell? ⟨g2, 5, none⟩ = some (.string E0) := (blk_cell HQ.out.B2 5).trans rfl; have y5 := blk_frozen HQ.out.B2 5; have b3 : wq.cell? ⟨g1, 3, none⟩ = some (.slice (some af) v.f3.length c) := (blk_cell HQ.out.B1 3).trans rfl; have s21 := (HQ.out.HB.cell (World.block_lt_of_cell? w _ S21.out)).trans S21.out; have s41 := (HQ.out.HB.cell (World.block_lt_of_cell? w _ S41.out)).trans S41.out)) | (go_at_call 93; go_loud ((with_reducible refine (graph_small.calls m2.f1 (inr m2.f1) _ (small_any _)).mono ?_); rintro e wz ⟨rfl, hd⟩; obtain ⟨nm2_, rfl⟩ := hd.out)))
    refine bodyPost_ret (results_ct rfl _ _ g2 48 #[.string E0, .slice none 0 0, .int .i64 0, .int .i64 0, .int .i64 0, .string E0] (0, 0) _ rfl (set6_v (blk_drewN HQ.out.B2 _) _ _ _ _ _ _) hu2 rfl (by kernel_rfl)) rfl ?_
    exact post_bad (HR.out.symm.trans (node_s HX.out (fun h => HS2.out h.1))) (set6_below (pw_below_drewN HQ.out.HB _) (by omega) _ _ _ _ _ _)
  by_cases hs4 : inr m4.f1 = true
  case neg =>
    have HS4 := Aside0.mk hs4
    replace hs4 := Bool.eq_false_iff.2 hs4
    go_wp2_with (first | (go_at_call 61; go_loud ((with_reducible refine HSC.out.mono ?_); rintro e wq ⟨rfl, hb⟩; have HQ := Aside0.mk (HE.out.go (below_then OKX.out OKX.out.size hb)); clear hb; have z0 : wq.cell? ⟨g2, 0, none⟩ = some (.string E0) := (blk_cell HQ.out.B2 0).trans rfl; have y0 := blk_frozen HQ.out.B2 0; have z1 : wq.cell? ⟨g2, 1, none⟩ = some (.slice none 0 0) := (blk_cell HQ.out.B2 1).trans rfl; have y1 := blk_frozen HQ.out.B2 1; have z2 : wq.cell? ⟨g2, 2, none⟩ = some (.int .i64 0) := (blk_cell HQ.out.B2 2).trans rfl; have y2 := blk_frozen HQ.out.B2 2; have z3 : wq.cell? ⟨g2, 3, none⟩ = some (.int .i64 0) := (blk_cell HQ.out.B2 3).trans rfl; have y3 := blk_frozen HQ.out.B2 3; have z4 : wq.cell? ⟨g2, 4, none⟩ = some (.int .i64 0) := (blk_cell HQ.out.B2 4).trans rfl; have y4 := blk_frozen HQ.out.B2 4; have z5 : wq.cell? ⟨g2, 5, none⟩ = some (.string E0) := (blk_cell HQ.out.B2 5).trans rfl; have y5 := blk_frozen HQ.out.B2 5; have b3 : wq.cell? ⟨g1, 3, none⟩ = some (.slice (some af) v.f3.length c) := (blk_cell HQ.out.B1 3).trans rfl; have s21 := (HQ.out.HB.cell (World.block_lt_of_cell? w _ S21.out)).trans S21.out; have s41 := (HQ.out.HB.cell (World.block_lt_of_cell? w _ S41.out)).trans S41.out)) | (go_at_call 93; go_loud ((with_reducible refine (graph_small.calls m2.f1 (inr m2.f1) _ (small_any _)).mono ?_); rintro e wz ⟨rfl, hd⟩; obtain ⟨nm2_, rfl⟩ := hd.out)) | (go_at_call 93; go_loud ((with_reducible refine (graph_small.calls m4.f1 (inr m4.f1) _ (small_any _)).mono ?_); rintro e wz ⟨rfl, hd⟩; obtain ⟨nm4_, rfl⟩ := hd.out)))
    refine bodyPost_ret (results_ct rfl _ _ g2 48 #[.string E0, .slice none 0 0, .int .i64 0, .int .i64 0, .int .i64 0, .string E0] (0, 0) _ rfl (set6_v (blk_drewN HQ.out.B2 _) _ _ _ _ _ _) hu2 rfl (by kernel_rfl)) rfl ?_
    exact post_bad (HR.out.symm.trans (node_s HX.out (fun h => HS4.out h.2))) (set6_below (pw_below_drewN HQ.out.HB _) (by omega) _ _ _ _ _ _)
  go_upto_region 3 with (first | (go_at_call 61; go_loud ((with_reducible refine HSC.out.mono ?_); rintro e wq ⟨rfl, hb⟩; have HQ := Aside0.mk (HE.out.go (below_then OKX.out OKX.out.size hb)); clear hb; have z0 : wq.cell? ⟨g2, 0, none⟩ = some (.string E0) := (blk_cell HQ.out.B2 0).trans rfl; have y0 := blk_frozen HQ.out.B2 0; have z1 : wq.cell? ⟨g2, 1, none⟩ = some (.slice none 0 0) := (blk_cell HQ.out.B2 1).trans rfl; have y1 := blk_frozen HQ.out.B2 1; have z2 : wq.cell? ⟨g2, 2, none⟩ = some (.int .i64 0) := (blk_cell HQ.out.B2 2).trans rfl; have y2 := blk_frozen HQ.out.B2 2; have z3 : wq.cell? ⟨g2, 3, none⟩ = some (.int .i64 0) := (blk_cell HQ.out.B2 3).trans rfl; have y3 := blk_frozen HQ.out.B2 3; have z4 : wq.cell? ⟨g2, 4, none⟩ = some (.int .i64 0) := (blk_cell HQ.out.B2 4).trans rfl; have y4 := blk_frozen HQ.out.B2 4; have z5 : wq.cell? ⟨g2, 5, none⟩ = some (.string E0) := (blk_cell HQ.out.B2 5).trans rfl; have y5 := blk_frozen HQ.out.B2 5; have b3 : wq.cell? ⟨g1, 3, none⟩ = some (.slice (some af) v.f3.length c) := (blk_cell HQ.out.B1 3).trans rfl; have s21 := (HQ.out.HB.cell (World.block_lt_of_cell? w _ S21.out)).trans S21.out; have s41 := (HQ.out.HB.cell (World.block_lt_of_cell? w _ S41.out)).trans S41.out)) | (go_at_call 93; go_loud ((with_reducible refine (graph_small.calls m2.f1 (inr m2.f1) _ (small_any _)).mono ?_); rintro e wz ⟨rfl, hd⟩; obtain ⟨nm2_, rfl⟩ := hd.out)) | (go_at_call 93; go_loud ((with_reducible refine (graph_small.calls m4.f1 (inr m4.f1) _ (small_any _)).mono ?_); rintro e wz ⟨rfl, hd⟩; obtain ⟨nm4_, rfl⟩ := hd.out)))
  have HS2 := Aside0.mk hs2
  have HS4 := Aside0.mk hs4
  have HSS := Aside0.mk hs
  clear hs2 hs4 hs c0 c1 c2 c3 z0 z1 z2 z3 z4 z5 y0 y1 y2 y3 y4 y5 b3 s21 s41
  have hE7 : Env w (wq.drewN (nm2_ + nm4_)).drew v (some af) c g1 g2 := ⟨below_drew (pw_below_drewN HQ.out.HB _), HQ.out.B1, HQ.out.B2⟩
  have hS : (wq.drewN (nm2_ + nm4_)).drew.cell? ⟨g1, 3, none⟩ = some (.slice (some af) v.f3.length c) ∧ (wq.drewN (nm2_ + nm4_)).drew.cell? ⟨af.block, af.off + 2, none⟩ = some (.string m0.f2) ∧ (wq.drewN (nm2_ + nm4_)).drew.cell? ⟨af.block, af.off + 8 + 1, none⟩ = some (.int .i64 m2.f1) ∧ (wq.drewN (nm2_ + nm4_)).drew.cell? ⟨af.block, af.off + 12 + 1, none⟩ = some (.int .i64 m3.f1) ∧ (wq.drewN (nm2_ + nm4_)).drew.cell? ⟨af.block, af.off + 16 + 1, none⟩ = some (.int .i64 m4.f1) ∧ (wq.drewN (nm2_ + nm4_)).drew.cell? ⟨af.block, af.off + 20 + 2, none⟩ = some (.string m5.f2) :=
    ⟨(blk_cell hE7.B1 3).trans rfl, (hE7.HB.cell (World.block_lt_of_cell? w _ S02.out)).trans S02.out, (hE7.HB.cell (World.block_lt_of_cell? w _ S21.out)).trans S21.out, (hE7.HB.cell (World.block_lt_of_cell? w _ S31.out)).trans S31.out, (hE7.HB.cell (World.block_lt_of_cell? w _ S41.out)).trans S41.out, (hE7.HB.cell (World.block_lt_of_cell? w _ S52.out)).trans S52.out⟩
  clear HQ HE HCV HKR OKX HSC
  refine start_ (n := 28) (ds := [27]) (S := fun w' => w'.cell? ⟨g1, 3, none⟩ = some (.slice (some af) v.f3.length c) ∧ w'.cell? ⟨af.block, af.off + 2, none⟩ = some (.string m0.f2) ∧ w'.cell? ⟨af.block, af.off + 8 + 1, none⟩ = some (.int .i64 m2.f1) ∧ w'.cell? ⟨af.block, af.off + 12 + 1, none⟩ = some (.int .i64 m3.f1) ∧ w'.cell? ⟨af.block, af.off + 16 + 1, none⟩ = some (.int .i64 m4.f1) ∧ w'.cell? ⟨af.block, af.off + 20 + 2, none⟩ = some (.string m5.f2)) #[false, false, false, false, false, false, false, false, false, false, false, false, false, false, false, false, false, false, false, false, false, false, false, false, false, false, false, false] (by kernel_rfl) rfl rfl hS (fun hHeld => ?_)
  clear hS
  have nq0 : 0 < v.f3.length := by have := H6.out; omega
  have iq0 : (0 : Int) < (v.f3.length : Int) := by have := H6.out; omega
  have nq1 : 1 < v.f3.length := by have := H6.out; omega
  have iq1 : (1 : Int) < (v.f3.length : Int) := by have := H6.out; omega
  have nq2 : 2 < v.f3.length := by have := H6.out; omega
  have iq2 : (2 : Int) < (v.f3.length : Int) := by have := H6.out; omega
  have nq3 : 3 < v.f3.length := by have := H6.out; omega
  have iq3 : (3 : Int) < (v.f3.length : Int) := by have := H6.out; omega
  have nq4 : 4 < v.f3.length := by have := H6.out; omega
  have iq4 : (4 : Int) < (v.f3.length : Int) := by have := H6.out; omega
  have nq5 : 5 < v.f3.length := by have := H6.out; omega
  have iq5 : (5 : Int) < (v.f3.length : Int) := by have := H6.out; omega
  generalize (wq.drewN (nm2_ + nm4_)).drew = w7 at hE7 hHeld ⊢
  refine Rg.pu 0 (some 30) ?_
  refine Rg.tk 1 (some 31) hHeld ?_
  refine Rg.pu 2 (some 32) ?_
  refine Rg.pu 3 (some 33) ?_
  refine Rg.tk 4 (some 34) hHeld ?_
  refine Rg.pu 5 (some 35) ?_
  refine Rg.tk 6 (some 36) hHeld ?_
  refine Rg.pu 7 (some 37) ?_
  refine Rg.pu 8 (some 38) ?_
  refine Rg.tk 9 (some 39) hHeld ?_
  refine Rg.pu 10 (some 40) ?_
  refine Rg.tk 11 (some 41) hHeld ?_
  refine Rg.pu 12 (some 42) ?_
  refine Rg.pu 13 (some 43) ?_
  refine Rg.tk 14 (some 44) hHeld ?_
  refine Rg.pu 15 (some 45) ?_
  refine Rg.tk 16 (some 46) hHeld ?_
  refine Rg.pu 17 (some 47) ?_
  refine Rg.pu 18 (some 48) ?_
  refine Rg.tk 19 (some 49) hHeld ?_
  refine Rg.pu 20 (some 50) ?_
  refine Rg.tk 21 (some 51) hHeld ?_
  refine Rg.pu 22 (some 52) ?_
  refine Rg.pu 23 (some 53) ?_
  refine Rg.tk 24 (some 54) hHeld ?_
  refine Rg.pu 25 (some 55) ?_
  refine one_ (i := 26) (N := some 4) #[true, true, true, true, true, true, true, true, true, true, true, true, true, true, true, true, true, true, true, true, true, true, true, true, true, true, true, false] rfl rfl (by kernel_rfl) (by simp) (fun K hK => ?_)
  refine value_ (w1 := w7.alloc (.cells #[.string E0, .slice none 0 0, .int .i64 0, .int .i64 0, .int .i64 0, .string E0] 48)) (v := .pointer (some ⟨w7.heap.size, 0, none⟩)) (by rfl) rfl ?_ ?_
  · first | (go_simp; done) | (go_simp; with_reducible rfl)
  have hE8 := hE7.go (show Below w7.heap.size w7 (w7.alloc (.cells #[.string E0, .slice none 0 0, .int .i64 0, .int .i64 0, .int .i64 0, .string E0] 48)) from below_alloc (Below.refl _ _) _)
  have hbn8 := blk_new w7 (.cells #[.string E0, .slice none 0 0, .int .i64 0, .int .i64 0, .int .i64 0, .string E0] 48)
  have gtn : g2 < w7.heap.size := blk_lt hE7.B2
  have hal : ∀ {p : Addr} {u : Value}, w7.cell? p = some u → (w7.alloc (.cells #[.string E0, .slice none 0 0, .int .i64 0, .int .i64 0, .int .i64 0, .string E0] 48)).cell? p = some u := fun {p} {u} h => (World.cell?_alloc_lt _ _ _ (World.block_lt_of_cell? _ _ h)).trans h
  have hH8 := And.intro (hal hHeld.1) (And.intro (hal hHeld.2.1) (And.intro (hal hHeld.2.2.1) (And.intro (hal hHeld.2.2.2.1) (And.intro (hal hHeld.2.2.2.2.1) (hal hHeld.2.2.2.2.2)))))
  clear hE7 hHeld hal
  generalize w7.alloc (.cells #[.string E0, .slice none 0 0, .int .i64 0, .int .i64 0, .int .i64 0, .string E0] 48) = w8 at hE8 hbn8 hH8 ⊢
  generalize w7.heap.size = gn at hbn8 gtn ⊢
  refine hK.out _ _ hH8 (fun hHeld => ?_)
  clear hK K hH8
  refine norm_ (a' := ?_) ?_ ?_
  rotate_left
  · show Act.put _ (some 4) _ = _
    simp only [Act.put, List.setIfInBounds_toArray, List.set_cons_zero, List.set_cons_succ, i64_w, i32_w]
    rfl
  have n0 : w8.cell? ⟨gn, 0, none⟩ = some (.string E0) := (blk_cell hbn8 0).trans rfl
  have p0 := blk_frozen hbn8 0
  have n1 : w8.cell? ⟨gn, 1, none⟩ = some (.slice none 0 0) := (blk_cell hbn8 1).trans rfl
  have p1 := blk_frozen hbn8 1
  have n2 : w8.cell? ⟨gn, 2, none⟩ = some (.int .i64 0) := (blk_cell hbn8 2).trans rfl
  have p2 := blk_frozen hbn8 2
  have n3 : w8.cell? ⟨gn, 3, none⟩ = some (.int .i64 0) := (blk_cell hbn8 3).trans rfl
  have p3 := blk_frozen hbn8 3
  have n4 : w8.cell? ⟨gn, 4, none⟩ = some (.int .i64 0) := (blk_cell hbn8 4).trans rfl
  have p4 := blk_frozen hbn8 4
  have n5 : w8.cell? ⟨gn, 5, none⟩ = some (.string E0) := (blk_cell hbn8 5).trans rfl
  have p5 := blk_frozen hbn8 5
  refine last_ (i := 27) (N := none) #[true, true, true, true, true, true, true, true, true, true, true, true, true, true, true, true, true, true, true, true, true, true, true, true, true, true, true, true] rfl rfl (by kernel_rfl) (by simp) (fun K hK => ?_)
  refine skip_ (w1 := set6 w8 gn (.string m0.f2) (.slice none 0 0) (.int .i64 m2.f1) (.int .i64 m3.f1) (.int .i64 m4.f1) (.string m5.f2)) (by rfl) rfl ?_ ?_
  · go_simp; rfl
  have hE9 := hE8.set6 (g := gn) (by omega) (.string m0.f2) (.slice none 0 0) (.int .i64 m2.f1) (.int .i64 m3.f1) (.int .i64 m4.f1) (.string m5.f2)
  have hbn9 := set6_v hbn8 (.string m0.f2) (.slice none 0 0) (.int .i64 m2.f1) (.int .i64 m3.f1) (.int .i64 m4.f1) (.string m5.f2)
  clear hE8 hbn8 hHeld n0 n1 n2 n3 n4 n5 p0 p1 p2 p3 p4 p5
  generalize set6 w8 gn (.string m0.f2) (.slice none 0 0) (.int .i64 m2.f1) (.int .i64 m3.f1) (.int .i64 m4.f1) (.string m5.f2) = w9 at hE9 hbn9 ⊢
  have HE := Aside0.mk hE9
  have HBN := Aside0.mk hbn9
  clear hE9 hbn9
  refine hK.out _ _ ?_
  clear hK K
  refine done_ (by kernel_rfl) ?_
  have b3 : w9.cell? ⟨g1, 3, none⟩ = some (.slice (some af) v.f3.length c) := (blk_cell HE.out.B1 3).trans rfl
  have s13 := (HE.out.HB.cell (World.block_lt_of_cell? w _ S13.out)).trans S13.out
  go_wp2
  clear b3 s13
  have hlu : m1.f3.length ≤ 1000000 := HL.out m1 (by rw [HX.out]; simp)
  go_loopw [62] (fun v62 wr => ∃ (j : Nat) (vd : Value), v62 = .int .i64 (j : Int) ∧ j ≤ m1.f3.length ∧ Aside0 (textsB (m1.f3.take j) = true) ∧ Aside0 (Env w wr v (some af) c g1 g2) ∧ Aside0 (wr.heap[gn]? = some (.cells #[.string m0.f2, vd, .int .i64 m2.f1, .int .i64 m3.f1, .int .i64 m4.f1, .string m5.f2] 48 (0, 0))) ∧ Aside0 (Kd.R Kd.string 9 wr (gn + 1) (fun _ => True) vd ((m1.f3.take j).map (·.f2)))) (fun v62 _ => m1.f3.length - (intOf v62).toNat)
  case atStart => exact ⟨0, _, rfl, Nat.zero_le _, ⟨rfl⟩, HE, HBN, ⟨Kd.R_nil _ _ _ _ _⟩⟩
  case round =>
    clear HE HBN
    obtain ⟨j, vd, rfl, hj, HTX, HE, HBN, HD⟩ := hrel
    by_cases hjl : j < m1.f3.length
    · obtain ⟨ag, A7, c7, e, y0, y1, y2, y3, _, _⟩ := at1 HT.out j hjl hjl
      cases e
      have HJ := Aside0.mk hjl
      have hjli : (j : Int) < (m1.f3.length : Int) := by omega
      have hj0 : (0 : Int) ≤ (j : Int) := by omega
      have HTB := Aside0.mk (show m1.f3[j].f0 ≠ 1 → ¬ textsB m1.f3 = true from fun h1 h2 => h1 (by have := List.all_eq_true.1 h2 _ (List.getElem_mem hjl); exact beq_iff_eq.1 this))
      have HTS := Aside0.mk (show m1.f3[j].f0 = 1 → textsB (m1.f3.take (j + 1)) = true from fun h1 => by rw [List.take_succ_eq_append_getElem hjl]; unfold textsB; rw [List.all_append]; have h2 := HTX.out; unfold textsB at h2; rw [h2]; simp [h1])
      have HTM := Aside0.mk (show (m1.f3.take j).map (·.f2) ++ [m1.f3[j].f2] = (m1.f3.take (j + 1)).map (·.f2) by rw [List.take_succ_eq_append_getElem hjl, List.map_append]; rfl)
      generalize m1.f3[j] = y at y0 y1 y2 y3 HTB HTS HTM
      replace y0 := (HE.out.HB.cell (World.block_lt_of_cell? w _ y0)).trans y0
      replace y1 := (HE.out.HB.cell (World.block_lt_of_cell? w _ y1)).trans y1
      replace y2 := (HE.out.HB.cell (World.block_lt_of_cell? w _ y2)).trans y2
      replace y3 := (HE.out.HB.cell (World.block_lt_of_cell? w _ y3)).trans y3
      go_upto_region 7 with fail
      have hbl : Below wr.heap.size wr (wr.alloc (.cells #[.int .i64 y.f0, .int .i64 y.f1, .string y.f2, .slice A7 y.f3.length c7] 54)) := below_alloc (Below.refl _ _) _
      have hE0 := HE.out.go hbl
      have hbn := blk_below HBN.out hbl
      have hD0 := Kd.R_below HD.out hbl
      have hby := blk_new wr (.cells #[.int .i64 y.f0, .int .i64 y.f1, .string y.f2, .slice A7 y.f3.length c7] 54)
      clear y0 y1 y2 y3 HE HBN HD hbl
      generalize wr.alloc (.cells #[.int .i64 y.f0, .int .i64 y.f1, .string y.f2, .slice A7 y.f3.length c7] 54) = w4 at hE0 hbn hD0 hby ⊢
      generalize wr.heap.size = gy at hby ⊢
      have HE := Aside0.mk hE0
      have HBN := Aside0.mk hbn
      have HD := Aside0.mk hD0
      have HBY := Aside0.mk hby
      have HGN := Aside0.mk (show gn + 1 ≤ w4.heap.size from blk_lt hbn)
      clear hE0 hbn hD0 hby
      have d0 : w4.cell? ⟨gy, 0, none⟩ = some (.int .i64 y.f0) := (blk_cell HBY.out 0).trans rfl
      have d2 : w4.cell? ⟨gy, 2, none⟩ = some (.string y.f2) := (blk_cell HBY.out 2).trans rfl
      by_cases hy : y.f0 = 1
      case neg =>
        have hy' : (y.f0 != 1) = true := bne_iff_ne.2 hy
        have HYN := Aside0.mk hy
        clear hy
        have z0 : w4.cell? ⟨g2, 0, none⟩ = some (.string E0) := (blk_cell HE.out.B2 0).trans rfl; have y0 := blk_frozen HE.out.B2 0; have z1 : w4.cell? ⟨g2, 1, none⟩ = some (.slice none 0 0) := (blk_cell HE.out.B2 1).trans rfl; have y1 := blk_frozen HE.out.B2 1; have z2 : w4.cell? ⟨g2, 2, none⟩ = some (.int .i64 0) := (blk_cell HE.out.B2 2).trans rfl; have y2 := blk_frozen HE.out.B2 2; have z3 : w4.cell? ⟨g2, 3, none⟩ = some (.int .i64 0) := (blk_cell HE.out.B2 3).trans rfl; have y3 := blk_frozen HE.out.B2 3; have z4 : w4.cell? ⟨g2, 4, none⟩ = some (.int .i64 0) := (blk_cell HE.out.B2 4).trans rfl; have y4 := blk_frozen HE.out.B2 4; have z5 : w4.cell? ⟨g2, 5, none⟩ = some (.string E0) := (blk_cell HE.out.B2 5).trans rfl; have y5 := blk_frozen HE.out.B2 5
        go_wp2
        refine bodyPost_ret (results_ct rfl _ _ g2 48 #[.string E0, .slice none 0 0, .int .i64 0, .int .i64 0, .int .i64 0, .string E0] (0, 0) _ rfl (set6_v HE.out.B2 _ _ _ _ _ _) hu2 rfl (by kernel_rfl)) rfl ?_
        exact post_bad (HR.out.symm.trans (node_t HX.out (HTB.out HYN.out))) (set6_below HE.out.HB (by omega) _ _ _ _ _ _)
      have hy' : (y.f0 != 1) = false := bne_eq_false_iff_eq.2 hy
      have HYY := Aside0.mk hy
      clear hy
      have e1 : w4.cell? ⟨gn, 1, none⟩ = some vd := (blk_cell HBN.out 1).trans rfl
      have hlm : (((m1.f3.take j).map (·.f2)).length + 1) * 16 ≤ 140737488355328 := by rw [List.length_map, List.length_take]; omega
      have hd1 := HD.out
      have htm := HTM.out
      generalize (m1.f3.take j).map (fun d => d.f2) = tx1 at hd1 htm hlm
      generalize ht2 : (m1.f3.take (j + 1)).map (fun d => d.f2) = tx2 at htm
      have HT2 := Aside0.mk ht2
      have HD1 := Aside0.mk hd1
      have HTM1 := Aside0.mk htm
      clear hd1 htm ht2
      have HLM := Aside0.mk hlm
      have HRW := Aside0.mk (Kd.R_base HD.out)
      clear hlm
      go_wp2_with ((with_reducible refine gate_builtin (b := .append) (xs := #[.tmp 71, .tmp 74]) rfl ?_); at_builtin; refine Kd.R_append Kd.string (w0 := w4) (gn + 1) rfl (.tmp 71) (.tmp 74) 46 9 (.string ⟨#[]⟩) 16 rfl Try.underlying46 info9 rfl (by decide) (by omega) vd tx1 y.f2 [.string y.f2] (fun _ => True) (fun _ => False) rfl rfl rfl (fun _ hk => hk.elim) (fun _ _ => trivial) HD1.out ((Below.refl _ _).mono HGN.out) HGN.out HLM.out ?_; intro v8 w8 hD8 hb8 hg8 hat8; rw [HTM1.out] at hD8; obtain ⟨Ad, cd, ed⟩ := Kd.R_slice hD8; subst ed; have hE8 := Aside0.mk (HE.out.grown (HE.out.HB.grown hg8 HE.out.HB.size (fun k hk => by have := HRW.out k hk; omega)) hg8 (fun k hk => by have := HRW.out k hk; omega)); have hbn8 := blk_grown HBN.out hg8 (fun e => by have := HRW.out _ e.symm; omega); have n1 : w8.cell? ⟨gn, 1, none⟩ = some vd := (blk_cell hbn8 1).trans rfl; have p1 := blk_frozen hbn8 1; have HBN8 := Aside0.mk hbn8; have HD8 := Aside0.mk hD8; clear hD8 hb8 hg8 hat8 hbn8)
      go_roundw
      case rel => exact ⟨j + 1, .slice Ad tx2.length cd, by go_num, by have := HJ.out; omega, ⟨HTS.out HYY.out⟩, ⟨hE8.out.far (g := gn) (by omega) 1 _⟩, ⟨blk_put (cs := #[.string m0.f2, vd, .int .i64 m2.f1, .int .i64 m3.f1, .int .i64 m4.f1, .string m5.f2]) HBN8.out 1 _ rfl⟩, ⟨by rw [HT2.out]; exact Kd.R_mono (ok' := fun _ => True) (Kd.R_far (p := ⟨gn, 1, none⟩) (Kd.R_bound HD8.out) (fun k hk e => by have := hk.2.1; simp at e; omega) _) (fun _ _ => trivial)⟩⟩
      case measure => simp [intOf]; have := HJ.out; omega
    · obtain rfl : j = m1.f3.length := by omega
      have hge : ¬ ((m1.f3.length : Int) < (m1.f3.length : Int)) := by omega
      have hT2 := HTX.out
      rw [List.take_of_length_le (Nat.le_refl _)] at hT2
      have hD2 := HD.out
      rw [List.take_of_length_le (Nat.le_refl _)] at hD2
      have hfin := node_y HX.out HSS.out ⟨HS2.out, HS4.out⟩ hT2
      generalize m1.f3.map (fun d => d.f2) = tx at hD2 hfin
      obtain ⟨Ad, cd, ed⟩ := Kd.R_slice hD2
      subst ed
      have HD2 := Aside0.mk hD2
      have HFIN := Aside0.mk (HR.out.symm.trans hfin)
      clear hT2 hD2 hfin
      have z0 : wr.cell? ⟨g2, 0, none⟩ = some (.string E0) := (blk_cell HE.out.B2 0).trans rfl; have y0 := blk_frozen HE.out.B2 0; have z1 : wr.cell? ⟨g2, 1, none⟩ = some (.slice none 0 0) := (blk_cell HE.out.B2 1).trans rfl; have y1 := blk_frozen HE.out.B2 1; have z2 : wr.cell? ⟨g2, 2, none⟩ = some (.int .i64 0) := (blk_cell HE.out.B2 2).trans rfl; have y2 := blk_frozen HE.out.B2 2; have z3 : wr.cell? ⟨g2, 3, none⟩ = some (.int .i64 0) := (blk_cell HE.out.B2 3).trans rfl; have y3 := blk_frozen HE.out.B2 3; have z4 : wr.cell? ⟨g2, 4, none⟩ = some (.int .i64 0) := (blk_cell HE.out.B2 4).trans rfl; have y4 := blk_frozen HE.out.B2 4; have z5 : wr.cell? ⟨g2, 5, none⟩ = some (.string E0) := (blk_cell HE.out.B2 5).trans rfl; have y5 := blk_frozen HE.out.B2 5
      have n0 : wr.cell? ⟨gn, 0, none⟩ = some (.string m0.f2) := (blk_cell HBN.out 0).trans rfl
      have n1 : wr.cell? ⟨gn, 1, none⟩ = some (.slice Ad tx.length cd) := (blk_cell HBN.out 1).trans rfl
      have n2 : wr.cell? ⟨gn, 2, none⟩ = some (.int .i64 m2.f1) := (blk_cell HBN.out 2).trans rfl
      have n3 : wr.cell? ⟨gn, 3, none⟩ = some (.int .i64 m3.f1) := (blk_cell HBN.out 3).trans rfl
      have n4 : wr.cell? ⟨gn, 4, none⟩ = some (.int .i64 m4.f1) := (blk_cell HBN.out 4).trans rfl
      have n5 : wr.cell? ⟨gn, 5, none⟩ = some (.string m5.f2) := (blk_cell HBN.out 5).trans rfl
      go_wp2
      refine bodyPost_ret (results_ct rfl _ _ g2 48 #[.string m0.f2, .slice Ad tx.length cd, .int .i64 m2.f1, .int .i64 m3.f1, .int .i64 m4.f1, .string m5.f2] (0, 0) _ rfl (set6_v HE.out.B2 _ _ _ _ _ _) hu2 rfl (by kernel_rfl)) rfl ?_
      rw [HFIN.out]
      exact ⟨_, rfl, Kd.R_mono (ok' := fun _ => True) (Kd.R_lower (Kd.R_step (Kd.R_bound HD2.out) (w1 := set6 wr g2 (.string m0.f2) (.slice Ad tx.length cd) (.int .i64 m2.f1) (.int .i64 m3.f1) (.int .i64 m4.f1) (.string m5.f2)) (fun k hk _ => set6_o (by have := hk.2.1; omega) _ _ _ _ _ _)) (by omega)) (fun _ _ => trivial), set6_below HE.out.HB (by omega) _ _ _ _ _ _⟩
end Go.Proofs.Ytjicfkmpgogppaa.Gn
