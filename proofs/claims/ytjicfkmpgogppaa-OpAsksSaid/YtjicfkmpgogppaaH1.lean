/-
  Workflows as values, and values as workflows: plain.
  graph.shaped and graph.small: what they answer.
  The document's values as workflows: plain.
  The document's Read of a workflow, walked.
  The document's Read of an ask, walked.
  same and sameList: of a value and the document's value made out of it.
  pack.Equal: which values are alike.
  What the functions of package words, and of its reference, come to (plain: over the printed functions).
  What Text and GetText of package words, and their references, come to.
  What a reader of values reads: plain, over any kind of value.
  pack's reader: the ways that end in a panic.
  What the functions of package words, and of its reference, come to (plain: over the printed functions).
  What Text and GetText of package words, and their references, come to.
  pack.put and pack.Put: what they come to.
  pack.Put, pack.All: what they come to.
-/
import Derived.Test.YtjicfkmpgogppaaH0
import Derived.LoopTactic
import Derived.Outline
import Derived.WalkSmall
import Derived.Deep.RegionHeld3
import Derived.Recover
import Derived.Lib.Hide
namespace Go.Proofs.Ytjicfkmpgogppaa.Gv
set_option linter.unusedVariables false
set_option linter.unusedSimpArgs false
open Go Go.RowKit Go.Proofs.Ytjicfkmpgogppaa.Plain Go.Proofs.Ytjicfkmpgogppaa.Vs Go.Proofs.Ytjicfkmpgogppaa.PA Go.Proofs.YtjicfkmpgogppaaW.PrintWords Go.Proofs.YtjicfkmpgogppaaW.PrintLast Go.Proofs.YtjicfkmpgogppaaW.PrintMore
abbrev A_ := S48
abbrev E0 : ByteArray := ⟨#[]⟩
def strV (s : ByteArray) : V := ⟨1, 0, s, []⟩
def numV (n : Int) : V := ⟨0, n, E0, []⟩
def allV (l : List V) : V := ⟨2, 0, E0, l⟩
/-- a node as a value -/
def nodeV (x : A_) : V := allV [strV x.f0, allV (x.f1.map strV), numV x.f2, numV x.f3, numV x.f4, strV x.f5]
/-- a workflow as a value -/
def flowV (nm : ByteArray) (l : List A_) : V := allV [strV nm, allV (l.map nodeV)]
abbrev at_ (v : V) (i : Nat) : V := v.f3.getD i z54
def inr (n : Int) : Bool := decide (-2147483648 ≤ n ∧ n ≤ 2147483647)
def shapedB (k : Int) (l : List V) (ks : List Int) : Bool := decide (k = 2 ∧ l.map (·.f0) = ks)
theorem rdV_nat (l : List V) (i : Nat) (h : i < l.length) : rd_T54 l (i : Int) = l[i] := by
  unfold rd_T54
  rw [Int.toNat_natCast, List.getD_eq_getElem?_getD, List.getElem?_eq_getElem h]; rfl
def textsB (l : List V) : Bool := l.all fun d => d.f0 == 1
/-- the node that a value is -/
def nodeR (v : V) : Option A_ := if shapedB v.f0 v.f3 [1, 2, 0, 0, 0, 1] = true then (if inr (at_ v 2).f1 = true ∧ inr (at_ v 4).f1 = true then (if textsB (at_ v 1).f3 = true then some ⟨(at_ v 0).f2, (at_ v 1).f3.map (·.f2), (at_ v 2).f1, (at_ v 3).f1, (at_ v 4).f1, (at_ v 5).f2⟩ else none) else none) else none
def nodeT (o : Option A_) : ByteArray × List ByteArray × Int × Int × Int × ByteArray × Bool := match o with
  | some x => (x.f0, x.f1, x.f2, x.f3, x.f4, x.f5, true)
  | none => (E0, [], 0, 0, 0, E0, false)
theorem rd_at (l : List V) (i : Nat) : rd_T54 l (i : Int) = l.getD i z54 := by
  unfold rd_T54
  rw [Int.toNat_natCast]
/-- all of them, if each is a node -/
def nodesR : List V → Option (List A_)
  | [] => some []
  | v :: l => match nodeR v with
    | none => none
    | some x => match nodesR l with
      | none => none
      | some r => some (x :: r)
/-- the workflow that a value is, or the error's number -/
def flowR (v : V) : ByteArray × List A_ × Int := if shapedB v.f0 v.f3 [1, 2] = true then (match nodesR (at_ v 1).f3 with
    | some r => ((at_ v 0).f2, r, 0)
    | none => (E0, [], 4)) else (E0, [], 4)
theorem small_lim {v : V} (h : Small v) : v.f3.length ≤ 1000000 ∧ ∀ x ∈ v.f3, x.f3.length ≤ 1000000 ∧ ∀ y ∈ x.f3, ∀ z ∈ y.f3, z.f3.length ≤ 1000000 := by
  rw [Small_eq] at h
  refine ⟨by omega, fun x hx => ?_⟩
  have h1 := h.2 x hx
  rw [Small_eq] at h1
  refine ⟨by omega, fun y hy z hz => ?_⟩
  have h2 := h1.2 y hy
  rw [Small_eq] at h2
  have h3 := h2.2 z hz
  rw [Small_eq] at h3
  omega
def okN (x : A_) : Bool := inr x.f2 && inr x.f4
theorem texts_str (l : List ByteArray) : textsB (l.map strV) = true := by
  unfold textsB
  rw [List.all_eq_true]
  intro x hx
  obtain ⟨s, _, rfl⟩ := List.mem_map.1 hx
  rfl
theorem map_str (l : List ByteArray) : (l.map strV).map (·.f2) = l := by
  rw [List.map_map]
  exact (List.map_congr_left fun x _ => rfl).trans (List.map_id l)
theorem nodeR_V (x : A_) : nodeR (nodeV x) = if okN x = true then some x else none := by
  have e1 : textsB (at_ (nodeV x) 1).f3 = true := texts_str x.f1
  have e2 : (at_ (nodeV x) 1).f3.map (·.f2) = x.f1 := map_str x.f1
  have e3 : shapedB (nodeV x).f0 (nodeV x).f3 [1, 2, 0, 0, 0, 1] = true := decide_eq_true ⟨rfl, rfl⟩
  unfold nodeR
  rw [e1, e2, e3, if_pos rfl, if_pos rfl]
  show (if inr x.f2 = true ∧ inr x.f4 = true then some (⟨x.f0, x.f1, x.f2, x.f3, x.f4, x.f5⟩ : A_) else none) = _
  unfold okN
  by_cases h : inr x.f2 = true ∧ inr x.f4 = true
  · rw [if_pos h, if_pos (by rw [h.1, h.2]; rfl)]
  · rw [if_neg h, if_neg]
    rw [Bool.and_eq_true]; exact h
theorem nodesR_V : ∀ l : List A_, nodesR (l.map nodeV) = if l.all okN = true then some l else none
  | [] => rfl
  | x :: l => by
    rw [List.map_cons, nodesR, nodeR_V, nodesR_V l, List.all_cons]
    cases c : okN x with
    | false => rfl
    | true =>
      rw [Bool.true_and, if_pos rfl]
      cases d : l.all okN with
      | false => rw [if_neg (by decide)]; rfl
      | true => rw [if_pos rfl]; rfl
theorem flowR_V (nm : ByteArray) (l : List A_) : flowR (flowV nm l) = if l.all okN = true then (nm, l, 0) else (E0, [], 4) := by
  have e : nodesR (at_ (flowV nm l) 1).f3 = if l.all okN = true then some l else none := nodesR_V l
  have e3 : shapedB (flowV nm l).f0 (flowV nm l).f3 [1, 2] = true := decide_eq_true ⟨rfl, rfl⟩
  unfold flowR
  rw [e, e3, if_pos rfl]
  by_cases h : l.all okN = true
  · rw [if_pos h, if_pos h]; rfl
  · rw [if_neg h, if_neg h]
end Go.Proofs.Ytjicfkmpgogppaa.Gv
namespace Go.Proofs.Ytjicfkmpgogppaa.Gv
set_option linter.unusedVariables false
set_option linter.unusedSimpArgs false
open Go Go.RowKit Go.Proofs.Ytjicfkmpgogppaa.Plain Go.Proofs.Ytjicfkmpgogppaa.Vs Go.Proofs.Ytjicfkmpgogppaa.PA Go.Proofs.YtjicfkmpgogppaaW.PrintWords Go.Proofs.YtjicfkmpgogppaaW.PrintLast Go.Proofs.YtjicfkmpgogppaaW.PrintMore
theorem small_some (n : Int) : graph_small.f n = some (inr n) := by
  unfold graph_small.f inr
  by_cases h : n ≥ -2147483648
  · rw [if_pos h]; congr 1; rw [decide_eq_decide]; omega
  · rw [if_neg h, decide_eq_false (by omega)]
theorem shaped_l0 (a b : Int) (c : ByteArray) (l : List V) (ks : List Int) (hk : ks.length ≤ 1000) (he : l.length = ks.length) : ∀ (d i : Nat), i + d = ks.length → ∀ K, graph_shaped.l0 (K + d + 1) ks ks.length i a b c l = some (decide ((l.drop i).map (·.f0) = ks.drop i))
  | 0, i, h, K => by
    rw [graph_shaped.l0, if_neg (by omega), List.drop_of_length_le (by omega), List.drop_of_length_le (by omega)]
    rfl
  | d + 1, i, h, K => by
    have e1' : wrap64 ((i : Int) + 1) = ((i + 1 : Nat) : Int) := by rw [w64 (by omega) (by omega)]; rfl
    have hi : i < ks.length := by omega
    have hi2 : i < l.length := by omega
    have hr : rd ks (i : Int) = ks[i] := by
      unfold rd
      rw [Int.toNat_natCast, List.getD_eq_getElem?_getD, List.getElem?_eq_getElem hi]; rfl
    rw [show K + (d + 1) + 1 = (K + d + 1) + 1 by omega, graph_shaped.l0, if_pos (by omega), if_pos (by omega), if_pos (by omega), if_pos (by omega), rdV_nat l i hi2, hr, e1', List.drop_eq_getElem_cons hi, List.drop_eq_getElem_cons hi2, List.map_cons]
    by_cases c0 : l[i].f0 = ks[i]
    · rw [if_pos c0, shaped_l0 a b c l ks hk he d (i + 1) (by omega) K]
      congr 1
      rw [decide_eq_decide]
      constructor
      · intro h; rw [h, c0]
      · intro h; injection h
    · rw [if_neg c0, decide_eq_false]
      intro h; injection h with h _; exact c0 h
theorem shaped_some (a b : Int) (c : ByteArray) (l : List V) (ks : List Int) (hk : ks.length ≤ 1000) (K : Nat) : graph_shaped.f (K + ks.length + 2) a b c l ks = some (shapedB a l ks) := by
  unfold graph_shaped.f shapedB
  by_cases ha : a = 2
  · rw [if_pos ha]
    by_cases he : l.length = ks.length
    · have e : (((l.length : Int) != (ks.length : Int))) = false := by rw [bne_eq_false_iff_eq]; omega
      rw [e, show K + ks.length + 2 = (K + ks.length + 1) + 1 by omega, graph_shaped.j0, if_neg (by decide)]
      have h := shaped_l0 a b c l ks hk he ks.length 0 (by omega) K
      rw [List.drop_zero, List.drop_zero] at h
      refine h.trans ?_
      congr 1
      rw [decide_eq_decide]
      exact ⟨fun h => ⟨ha, h⟩, fun h => h.2⟩
    · have e : (((l.length : Int) != (ks.length : Int))) = true := by rw [bne_iff_ne]; omega
      rw [e, show K + ks.length + 2 = (K + ks.length + 1) + 1 by omega, graph_shaped.j0, if_pos rfl, decide_eq_false]
      rintro ⟨_, h⟩
      have := congrArg List.length h
      rw [List.length_map] at this
      exact he this
  · rw [if_neg ha, show K + ks.length + 2 = (K + ks.length + 1) + 1 by omega, graph_shaped.j0, if_pos rfl, decide_eq_false]
    rintro ⟨h, _⟩; exact ha h
end Go.Proofs.Ytjicfkmpgogppaa.Gv
namespace Go.Proofs.Ytjicfkmpgogppaa.Rw
set_option linter.unusedVariables false
set_option linter.unusedSimpArgs false
open Go Go.RowKit Go.Proofs.Ytjicfkmpgogppaa.Plain Go.Proofs.Ytjicfkmpgogppaa.Vs Go.Proofs.Ytjicfkmpgogppaa.PA Go.Proofs.YtjicfkmpgogppaaW.PrintWords Go.Proofs.YtjicfkmpgogppaaW.PrintLast Go.Proofs.YtjicfkmpgogppaaW.PrintMore
abbrev B_ := S125
abbrev E0 : ByteArray := ⟨#[]⟩
def inr (n : Int) : Bool := decide (-2147483648 ≤ n ∧ n ≤ 2147483647)
def shapedW (k : Int) (l : List W) (ks : List Int) : Bool := decide (k = 2 ∧ l.map (·.f0) = ks)
def textsW (l : List W) : Bool := l.all fun d => d.f0 == 1
abbrev atW (v : W) (i : Nat) : W := v.f3.getD i z57
/-- the node that a value is -/
def nodeRW (v : W) : Option B_ := if shapedW v.f0 v.f3 [1, 2, 0, 0, 0, 1] = true then (if inr (atW v 2).f1 = true ∧ inr (atW v 4).f1 = true then (if textsW (atW v 1).f3 = true then some ⟨(atW v 0).f2, (atW v 1).f3.map (·.f2), (atW v 2).f1, (atW v 3).f1, (atW v 4).f1, (atW v 5).f2⟩ else none) else none) else none
def nodesRW : List W → Option (List B_)
  | [] => some []
  | v :: l => match nodeRW v with
    | none => none
    | some x => match nodesRW l with
      | none => none
      | some r => some (x :: r)
def flowRW (v : W) : ByteArray × List B_ × Int := if shapedW v.f0 v.f3 [1, 2] = true then (match nodesRW (atW v 1).f3 with
    | some r => ((atW v 0).f2, r, 0)
    | none => (E0, [], 4)) else (E0, [], 4)
def limB (v : W) : Bool := decide (v.f3.length ≤ 1000000) && v.f3.all fun x => decide (x.f3.length ≤ 1000000) && x.f3.all fun y => decide (y.f3.length ≤ 1000000) && y.f3.all fun z => decide (z.f3.length ≤ 1000000)
theorem six {l : List W} (h : l.length = 6) : ∃ v0 v1 v2 v3 v4 v5, l = [v0, v1, v2, v3, v4, v5] := by
  match l, h with
  | [v0, v1, v2, v3, v4, v5], _ => exact ⟨v0, v1, v2, v3, v4, v5, rfl⟩
/-- node by node: the first i of them are nodes -/
theorem nodesRW_append : ∀ (l m : List W), nodesRW (l ++ m) = match nodesRW l with
    | none => none
    | some r => match nodesRW m with
      | none => none
      | some s => some (r ++ s)
  | [], m => by
    rw [List.nil_append, nodesRW]
    cases nodesRW m <;> rfl
  | x :: l, m => by
    rw [List.cons_append, nodesRW, nodesRW, nodesRW_append l m]
    cases nodeRW x with
    | none => rfl
    | some y =>
      cases nodesRW l with
      | none => rfl
      | some r =>
        cases nodesRW m with
        | none => rfl
        | some s => rfl
theorem nodesRW_bad {l : List W} {i : Nat} (hi : i < l.length) (h : nodeRW l[i] = none) : nodesRW l = none := by
  have e : l = l.take i ++ l[i] :: l.drop (i + 1) := by rw [← List.drop_eq_getElem_cons hi, List.take_append_drop]
  rw [e, nodesRW_append, nodesRW, h]
  cases nodesRW (l.take i) <;> rfl
end Go.Proofs.Ytjicfkmpgogppaa.Rw
namespace Go.Proofs.Ytjicfkmpgogppaa.Rw
set_option linter.unusedVariables false
set_option linter.unusedSimpArgs false
open Go Go.RowKit Go.Proofs.Ytjicfkmpgogppaa.Plain Go.Proofs.Ytjicfkmpgogppaa.Vs Go.Proofs.Ytjicfkmpgogppaa.PA Go.Proofs.YtjicfkmpgogppaaW.PrintWords Go.Proofs.YtjicfkmpgogppaaW.PrintLast Go.Proofs.YtjicfkmpgogppaaW.PrintMore
def Post (w : World) (r : ByteArray × List B_ × Int) (e : Ending) (w' : World) : Prop := ∃ u, e = .returned (.tuple #[.agg #[.string r.1, u], .int .i64 r.2.2]) ∧ Kd.V k125 125 w' w.heap.size (fun k => w.heap.size ≤ k) u r.2.1 ∧ Below w.heap.size w w'
theorem post_bad {w w' : World} {r : ByteArray × List B_ × Int} (hr : r = (E0, [], 4)) (hb : Below w.heap.size w w') : Post w r (.returned (.tuple #[.agg #[.string E0, .slice none 0 0], .int .i64 4])) w' := by
  subst hr
  exact ⟨_, rfl, Kd.V_nil _ _ _ _ _, hb⟩
/-- where the function's variables lie -/
structure Env (w wr : World) (v : W) (A : Option Addr) (c g1 g2 g4 : Nat) : Prop where
  HB : Below w.heap.size w wr
  B1 : wr.heap[g1]? = some (.cells #[.int .i64 v.f0, .int .i64 v.f1, .string v.f2, .slice A v.f3.length c] 57 (0, 0))
  B2 : wr.heap[g2]? = some (.cells #[.string E0, .slice none 0 0] 30 (0, 0))
  B4 : wr.heap[g4]? = some (.cells #[.string E0, .slice none 0 0] 30 (0, 0))
theorem Env.alloc {w wr : World} {v : W} {A : Option Addr} {c g1 g2 g4 : Nat} (h : Env w wr v A c g1 g2 g4) (o : Obj) : Env w (wr.alloc o) v A c g1 g2 g4 := ⟨below_alloc h.HB o, blk_alloc h.B1 o, blk_alloc h.B2 o, blk_alloc h.B4 o⟩
theorem Env.drewN {w wr : World} {v : W} {A : Option Addr} {c g1 g2 g4 : Nat} (h : Env w wr v A c g1 g2 g4) (n : Nat) : Env w (wr.drewN n) v A c g1 g2 g4 := ⟨pw_below_drewN h.HB n, blk_drewN h.B1 n, blk_drewN h.B2 n, blk_drewN h.B4 n⟩
theorem Env.far {w wr : World} {v : W} {A : Option Addr} {c g1 g2 g4 g : Nat} (h : Env w wr v A c g1 g2 g4) (hg : w.heap.size ≤ g ∧ g1 < g ∧ g2 < g ∧ g4 < g) (j : Nat) (u : Value) : Env w (wr.setCell ⟨g, j, none⟩ u) v A c g1 g2 g4 := ⟨below_set h.HB hg.1, blk_far h.B1 (by simp; omega) u, blk_far h.B2 (by simp; omega) u, blk_far h.B4 (by simp; omega) u⟩
theorem Env.grown {w wr w1 : World} {v : W} {A : Option Addr} {c g1 g2 g4 : Nat} {row : Option Nat} (h : Env w wr v A c g1 g2 g4) (hb : Below w.heap.size w w1) (hg : wr.grownBy w1 row) (hn : ∀ k, row = some k → g1 < k ∧ g2 < k ∧ g4 < k) : Env w w1 v A c g1 g2 g4 := ⟨hb, blk_grown h.B1 hg (fun e => by have := hn _ e.symm; omega), blk_grown h.B2 hg (fun e => by have := hn _ e.symm; omega), blk_grown h.B4 hg (fun e => by have := hn _ e.symm; omega)⟩
theorem ad0 (a : Addr) : a.add 0 = a := by unfold Addr.add; simp
theorem ad4 (a : Addr) : a.add 4 = ⟨a.block, a.off + 4, none⟩ := by unfold Addr.add; simp
theorem ad8 (a : Addr) : a.add 8 = ⟨a.block, a.off + 8, none⟩ := by unfold Addr.add; simp
theorem ad12 (a : Addr) : a.add 12 = ⟨a.block, a.off + 12, none⟩ := by unfold Addr.add; simp
theorem ad16 (a : Addr) : a.add 16 = ⟨a.block, a.off + 16, none⟩ := by unfold Addr.add; simp
theorem ad20 (a : Addr) : a.add 20 = ⟨a.block, a.off + 20, none⟩ := by unfold Addr.add; simp
theorem flow_bad {v v0 v1 : W} (hv : v.f3 = [v0, v1]) {i : Nat} (hi : i < v1.f3.length) (h : nodeRW v1.f3[i] = none) : flowRW v = (E0, [], 4) := by
  have e : atW v 1 = v1 := by show v.f3.getD 1 _ = v1; rw [hv]; rfl
  unfold flowRW
  rw [e, nodesRW_bad hi h]
  split <;> rfl
theorem small_some (n : Int) : precinctref12_small.f n = some (inr n) := by
  unfold precinctref12_small.f inr
  by_cases h : n ≥ -2147483648
  · rw [if_pos h]; congr 1; rw [decide_eq_decide]; omega
  · rw [if_neg h, decide_eq_false (by omega)]
set_option maxHeartbeats 400000 in
theorem small_walk (n : Int) (w : World) : Calls Try.prog 63 #[.int .i64 n] w fun e w' => e = .returned (.bool (inr n)) ∧ Drawn0 w w' := precinctref12_small.calls n (inr n) w (small_some n)
def set6 (w : World) (g : Nat) (a b c d e f : Value) : World := (((((w.setCell ⟨g, 0, none⟩ a).setCell ⟨g, 1, none⟩ b).setCell ⟨g, 2, none⟩ c).setCell ⟨g, 3, none⟩ d).setCell ⟨g, 4, none⟩ e).setCell ⟨g, 5, none⟩ f
theorem set6_v {w : World} {g t : Nat} {x0 x1 x2 x3 x4 x5 : Value} (h : w.heap[g]? = some (.cells #[x0, x1, x2, x3, x4, x5] t (0, 0))) (a b c d e f : Value) : (set6 w g a b c d e f).heap[g]? = some (.cells #[a, b, c, d, e, f] t (0, 0)) := by
  unfold set6
  refine blk_put (cs := #[a, b, c, d, e, x5]) ?_ 5 _ rfl
  refine blk_put (cs := #[a, b, c, d, x4, x5]) ?_ 4 _ rfl
  refine blk_put (cs := #[a, b, c, x3, x4, x5]) ?_ 3 _ rfl
  refine blk_put (cs := #[a, b, x2, x3, x4, x5]) ?_ 2 _ rfl
  refine blk_put (cs := #[a, x1, x2, x3, x4, x5]) ?_ 1 _ rfl
  exact blk_put (cs := #[x0, x1, x2, x3, x4, x5]) h 0 _ rfl
theorem set6_o {w : World} {g h : Nat} (hn : h ≠ g) (a b c d e f : Value) : (set6 w g a b c d e f).heap[h]? = w.heap[h]? := by
  unfold set6
  rw [Below.heap_setCell _ _ _ _ hn, Below.heap_setCell _ _ _ _ hn, Below.heap_setCell _ _ _ _ hn, Below.heap_setCell _ _ _ _ hn, Below.heap_setCell _ _ _ _ hn, Below.heap_setCell _ _ _ _ hn]
theorem Env.set6 {w wr : World} {v : W} {A : Option Addr} {c g1 g2 g4 g : Nat} (h : Env w wr v A c g1 g2 g4) (hg : w.heap.size ≤ g ∧ g1 < g ∧ g2 < g ∧ g4 < g) (a b c' d e f : Value) : Env w (Rw.set6 wr g a b c' d e f) v A c g1 g2 g4 := (((((h.far hg 0 a).far hg 1 b).far hg 2 c').far hg 3 d).far hg 4 e).far hg 5 f
theorem at1 {w : World} {A : Option Addr} {n : Nat} {xs : List W} (h : Kd.C k57 w A n xs) (i : Nat) (h1 : i < n) (hl : i < xs.length) : ∃ ad A3 c3, A = some ad ∧ w.cell? (ad.add (i * 4)) = some (.int .i64 xs[i].f0) ∧ w.cell? ⟨(ad.add (i * 4)).block, (ad.add (i * 4)).off + 1, none⟩ = some (.int .i64 xs[i].f1) ∧ w.cell? ⟨(ad.add (i * 4)).block, (ad.add (i * 4)).off + 2, none⟩ = some (.string xs[i].f2) ∧ w.cell? ⟨(ad.add (i * 4)).block, (ad.add (i * 4)).off + 3, none⟩ = some (.slice A3 xs[i].f3.length c3) ∧ xs[i].f3.length ≤ c3 ∧ Kd.C k57 w A3 xs[i].f3.length xs[i].f3 := by
  obtain ⟨ad, A3, c3, e, x⟩ := at_T57 h (i : Int) (by omega) (by omega)
  have hr : rd_T57 xs (i : Int) = xs[i] := by
    unfold rd_T57
    rw [Int.toNat_natCast, List.getD_eq_getElem?_getD, List.getElem?_eq_getElem hl]; rfl
  rw [hr, Int.toNat_natCast] at x
  exact ⟨ad, A3, c3, e, x⟩
end Go.Proofs.Ytjicfkmpgogppaa.Rw
namespace Go.Proofs.Ytjicfkmpgogppaa.Rr
set_option linter.unusedVariables false
set_option linter.unusedSimpArgs false
open Go Go.RowKit Go.Proofs.Ytjicfkmpgogppaa.Plain Go.Proofs.Ytjicfkmpgogppaa.Vs Go.Proofs.Ytjicfkmpgogppaa.Sh Go.Proofs.Ytjicfkmpgogppaa.PA Go.Proofs.YtjicfkmpgogppaaW.PrintWords Go.Proofs.YtjicfkmpgogppaaW.PrintLast Go.Proofs.YtjicfkmpgogppaaW.PrintMore
open Go.Proofs.Ytjicfkmpgogppaa.Rw (B_ E0 inr flowRW limB)
/-- which kinds an op's args are of -/
def kindsB (o : Int) : List UInt8 := if o = 0 then [108] else if o = 1 ∨ o = 7 then [] else if o = 2 then [108, 115, 115, 102] else if o = 3 then [116] else if o = 4 then [119] else if o = 5 then [115, 108] else if o = 6 then [115, 115] else if o = 8 ∨ o = 9 then [115, 116] else [45]
def fitsB (k : UInt8) (v : W) : Bool := if k = 108 then v.f0 == 0 else if k = 115 then decide (v.f0 = 0 ∧ inr v.f1 = true) else if k = 102 then decide (v.f0 = 0 ∧ (v.f1 = 0 ∨ v.f1 = 1)) else if k = 116 then v.f0 == 1 else (flowRW v).2.2 == 0
structure AskB where
  op : Int
  run : Int
  node : Int
  tries : Int
  okf : Bool
  person : Int
  role : Int
  till : Int
  caller : Int
  name : ByteArray
  fname : ByteArray
  nodes : List B_
def zB (o : Int) : AskB := ⟨o, 0, 0, 0, false, 0, 0, 0, 0, E0, E0, []⟩
abbrev cellsB (a : AskB) (u : Value) : Array Value := #[.int .i64 a.op, .int .i64 a.run, .int .i64 a.node, .int .i64 a.tries, .bool a.okf, .int .i64 a.person, .int .i64 a.role, .int .i64 a.till, .int .i64 a.caller, .string a.name, .string a.fname, u]
abbrev at_ (l : List W) (i : Nat) : W := l.getD i z57
/-- what values ask for that fit -/
def mkB (o : Int) (l : List W) : AskB :=
  if o = 0 then { zB o with run := (at_ l 0).f1 }
  else if o = 2 then { zB o with run := (at_ l 0).f1, node := (at_ l 1).f1, tries := (at_ l 2).f1, okf := (at_ l 3).f1 == 1 }
  else if o = 3 then { zB o with name := (at_ l 0).f2 }
  else if o = 4 then { zB o with fname := (flowRW (at_ l 0)).1, nodes := (flowRW (at_ l 0)).2.1 }
  else if o = 5 then { zB o with person := (at_ l 0).f1, till := (at_ l 1).f1 }
  else if o = 6 then { zB o with person := (at_ l 0).f1, role := (at_ l 1).f1 }
  else if o = 8 ∨ o = 9 then { zB o with caller := (at_ l 0).f1, name := (at_ l 1).f2 }
  else zB o
/-- do the values fit? -/
def okB (o : Int) (l : List W) : Prop := kindsB o ≠ [45] ∧ (kindsB o).length = l.length ∧ ∀ j, j < l.length → fitsB ((kindsB o).getD j 0) (at_ l j) = true
def PostB (w0 : World) (o : Int) (l : List W) (e : Ending) (w' : World) : Prop :=
  (okB o l → ∃ A c, e = .returned (.tuple #[.agg (cellsB (mkB o l) (.slice A (mkB o l).nodes.length c)), .int .i64 0]) ∧ (mkB o l).nodes.length ≤ c ∧ Kd.F k125 w' (fun k => w0.heap.size ≤ k) A (mkB o l).nodes.length (mkB o l).nodes ∧ Below w0.heap.size w0 w')
  ∧ (¬ okB o l → e = .returned (.tuple #[.agg (cellsB (zB 0) (.slice none 0 0)), .int .i64 4]) ∧ Below w0.heap.size w0 w')
theorem atW {w : World} {A : Option Addr} {xs : List W} (h : Kd.C k57 w A xs.length xs) (i : Nat) (hl : i < xs.length) : ∃ ad A3 c3, A = some ad ∧ w.cell? (ad.add (i * 4)) = some (.int .i64 (at_ xs i).f0) ∧ w.cell? ⟨(ad.add (i * 4)).block, (ad.add (i * 4)).off + 1, none⟩ = some (.int .i64 (at_ xs i).f1) ∧ w.cell? ⟨(ad.add (i * 4)).block, (ad.add (i * 4)).off + 2, none⟩ = some (.string (at_ xs i).f2) ∧ w.cell? ⟨(ad.add (i * 4)).block, (ad.add (i * 4)).off + 3, none⟩ = some (.slice A3 (at_ xs i).f3.length c3) ∧ (at_ xs i).f3.length ≤ c3 ∧ Kd.C k57 w A3 (at_ xs i).f3.length (at_ xs i).f3 := by
  obtain ⟨ad, A3, c3, e, x⟩ := at_T57 h (i : Int) (by omega) (by omega)
  have hr : rd_T57 xs (i : Int) = at_ xs i := by
    unfold rd_T57
    rw [Int.toNat_natCast]
  rw [hr, Int.toNat_natCast] at x
  exact ⟨ad, A3, c3, e, x⟩
end Go.Proofs.Ytjicfkmpgogppaa.Rr
namespace Go.Proofs.Ytjicfkmpgogppaa.Sm
set_option linter.unusedVariables false
set_option linter.unusedSimpArgs false
open Go Go.RowKit Go.Proofs.Ytjicfkmpgogppaa.Plain Go.Proofs.Ytjicfkmpgogppaa.Vs Go.Proofs.Ytjicfkmpgogppaa.Sh Go.Proofs.Ytjicfkmpgogppaa.PA Go.Proofs.YtjicfkmpgogppaaW.PrintWords Go.Proofs.YtjicfkmpgogppaaW.PrintLast Go.Proofs.YtjicfkmpgogppaaW.PrintMore
theorem toWs_length (l : List V) : (toWs l).length = l.length := by rw [toWs_map, List.length_map]
theorem atV {w : World} {A : Option Addr} {n : Nat} {xs : List V} (h : Kd.C k54 w A n xs) (i : Nat) (h1 : i < n) (hl : i < xs.length) : ∃ ad A3 c3, A = some ad ∧ w.cell? (ad.add (i * 4)) = some (.int .i64 xs[i].f0) ∧ w.cell? ⟨(ad.add (i * 4)).block, (ad.add (i * 4)).off + 1, none⟩ = some (.int .i64 xs[i].f1) ∧ w.cell? ⟨(ad.add (i * 4)).block, (ad.add (i * 4)).off + 2, none⟩ = some (.string xs[i].f2) ∧ w.cell? ⟨(ad.add (i * 4)).block, (ad.add (i * 4)).off + 3, none⟩ = some (.slice A3 xs[i].f3.length c3) ∧ xs[i].f3.length ≤ c3 ∧ Kd.C k54 w A3 xs[i].f3.length xs[i].f3 := by
  obtain ⟨ad, A3, c3, e, x⟩ := at_T54 h (i : Int) (by omega) (by omega)
  have hr : rd_T54 xs (i : Int) = xs[i] := by
    unfold rd_T54
    rw [Int.toNat_natCast, List.getD_eq_getElem?_getD, List.getElem?_eq_getElem hl]; rfl
  rw [hr, Int.toNat_natCast] at x
  exact ⟨ad, A3, c3, e, x⟩
theorem atW {w : World} {A : Option Addr} {n : Nat} {xs : List V} (h : Kd.C k57 w A n (toWs xs)) (i : Nat) (h1 : i < n) (hl : i < xs.length) : ∃ ad A3 c3, A = some ad ∧ w.cell? (ad.add (i * 4)) = some (.int .i64 xs[i].f0) ∧ w.cell? ⟨(ad.add (i * 4)).block, (ad.add (i * 4)).off + 1, none⟩ = some (.int .i64 xs[i].f1) ∧ w.cell? ⟨(ad.add (i * 4)).block, (ad.add (i * 4)).off + 2, none⟩ = some (.string xs[i].f2) ∧ w.cell? ⟨(ad.add (i * 4)).block, (ad.add (i * 4)).off + 3, none⟩ = some (.slice A3 xs[i].f3.length c3) ∧ xs[i].f3.length ≤ c3 ∧ Kd.C k57 w A3 xs[i].f3.length (toWs xs[i].f3) := by
  obtain ⟨ad, A3, c3, e, x⟩ := at_T57 h (i : Int) (by omega) (by have := toWs_length xs; omega)
  have hr : rd_T57 (toWs xs) (i : Int) = toW xs[i] := by
    rw [(rdV xs i (by omega) (by omega)).2]
    congr 1
    unfold rd_T54
    rw [Int.toNat_natCast, List.getD_eq_getElem?_getD, List.getElem?_eq_getElem hl]; rfl
  rw [hr, Int.toNat_natCast, toW_0, toW_1, toW_2, toW_3, toWs_length] at x
  exact ⟨ad, A3, c3, e, x⟩
/-- the values there are the same -/
def Same (v : V) : Prop := ∀ (A1 : Option Addr) (c1 : Nat) (A2 : Option Addr) (c2 : Nat) (w : World), Kd.C k54 w A1 v.f3.length v.f3 → Kd.C k57 w A2 v.f3.length (toWs v.f3) →
  Calls Try.prog 39 #[.agg #[.int .i64 v.f0, .int .i64 v.f1, .string v.f2, .slice A1 v.f3.length c1], .agg #[.int .i64 v.f0, .int .i64 v.f1, .string v.f2, .slice A2 v.f3.length c2]] w fun e w' => e = .returned (.bool true) ∧ Bl w w'
set_option maxHeartbeats 4000000 in
set_option maxRecDepth 100000 in
theorem same_walk (v : V) : Same v := by
  refine V_ind (P := Same) (fun a b s l ih => ?_) v
  intro A1 c1 A2 c2 w hC1 hC2
  have IH := Aside0.mk ih
  clear ih
  have hu := Try.underlying54
  have hu2 := Try.underlying57
  simp only at hC1 hC2 ⊢
  have H := ((St.start w).alloc #[.int .i64 a, .int .i64 b, .string s, .slice A1 l.length c1] 54).alloc #[.int .i64 a, .int .i64 b, .string s, .slice A2 l.length c2] 57
  have hs1 := new_size w (.cells #[.int .i64 a, .int .i64 b, .string s, .slice A1 l.length c1] 54)
  have HC1 := Aside0.mk hC1
  have HC2 := Aside0.mk hC2
  clear hC1 hC2
  go_enter Try.func39, Try.ntmps39
  go_upto_region 1 with fail
  rw [hs1] at H
  generalize (w.alloc (.cells #[.int .i64 a, .int .i64 b, .string s, .slice A1 l.length c1] 54)).alloc (.cells #[.int .i64 a, .int .i64 b, .string s, .slice A2 l.length c2] 57) = w2 at H ⊢
  clear hs1
  obtain ⟨g1, hg1⟩ : ∃ g, w.heap.size = g := ⟨_, rfl⟩
  obtain ⟨g2, hg2⟩ : ∃ g, g1 + 1 = g := ⟨_, rfl⟩
  rw [hg1, hg2] at H ⊢
  clear hg1 hg2
  have cc := H.c 0 rfl
  have c2_ := H.c 1 rfl
  have e0 : ((l.length : Int) != (l.length : Int)) = false := bne_self_eq_false _
  go_upto_region 4 with fail
  have HE := Aside0.mk H
  clear H e0 cc c2_
  go_wp2
  go_loopw [37] (fun v37 wr => ∃ (i : Nat), v37 = .int .i64 (i : Int) ∧ i ≤ l.length ∧ Aside0 (St w wr [(g2, #[.int .i64 a, .int .i64 b, .string s, .slice A2 l.length c2], 57), (g1, #[.int .i64 a, .int .i64 b, .string s, .slice A1 l.length c1], 54)])) (fun v37 _ => l.length - (intOf v37).toNat)
  case atStart => exact ⟨0, rfl, Nat.zero_le _, HE⟩
  case round =>
    clear HE
    obtain ⟨i, rfl, hi, HE⟩ := hrel
    have hbig : l.length ≤ 9223372036854775807 := by have := HC1.out.2.1; omega
    by_cases hlt : i < l.length
    · have hli : (i : Int) < (l.length : Int) := by omega
      have hi0 : (0 : Int) ≤ (i : Int) := by omega
      have HI := Aside0.mk hlt
      have hx := IH.out l[i] (List.getElem_mem hlt)
      obtain ⟨ad, A3, c3, rfl, x0, x1, x2, x3, l3, g3⟩ := atV HC1.out i hlt hlt
      obtain ⟨ae, B3, d3, rfl, y0, y1, y2, y3, m3, h3⟩ := atW HC2.out i hlt hlt
      generalize l[i] = x at x0 x1 x2 x3 l3 g3 y0 y1 y2 y3 m3 h3 hx
      obtain ⟨xa, xb, xs, xl⟩ := x
      unfold Same at hx
      simp only at x0 x1 x2 x3 l3 g3 y0 y1 y2 y3 m3 h3 hx
      have HX := Aside0.mk hx
      clear hx
      replace x0 := (HE.out.hb.cell (World.block_lt_of_cell? w _ x0)).trans x0
      replace x1 := (HE.out.hb.cell (World.block_lt_of_cell? w _ x1)).trans x1
      replace x2 := (HE.out.hb.cell (World.block_lt_of_cell? w _ x2)).trans x2
      replace x3 := (HE.out.hb.cell (World.block_lt_of_cell? w _ x3)).trans x3
      replace y0 := (HE.out.hb.cell (World.block_lt_of_cell? w _ y0)).trans y0
      replace y1 := (HE.out.hb.cell (World.block_lt_of_cell? w _ y1)).trans y1
      replace y2 := (HE.out.hb.cell (World.block_lt_of_cell? w _ y2)).trans y2
      replace y3 := (HE.out.hb.cell (World.block_lt_of_cell? w _ y3)).trans y3
      have HG := Aside0.mk g3
      have HH := Aside0.mk h3
      clear g3 h3 l3 m3
      have b0 : wr.cell? ⟨g1, 3, none⟩ = some (.slice (some ad) l.length c1) := (HE.out.c 1 rfl 3).trans rfl
      have b1 : wr.cell? ⟨g2, 3, none⟩ = some (.slice (some ae) l.length c2) := (HE.out.c 0 rfl 3).trans rfl
      go_upto_region 6 with fail
      go_region_held3 (fun w' => w'.cell? ⟨g1, 3, none⟩ = some (.slice (some ad) l.length c1) ∧ w'.cell? ⟨g2, 3, none⟩ = some (.slice (some ae) l.length c2) ∧ w'.cell? (ad.add (i * 4)) = some (.int .i64 xa) ∧ w'.cell? ⟨(ad.add (i * 4)).block, (ad.add (i * 4)).off + 1, none⟩ = some (.int .i64 xb) ∧ w'.cell? ⟨(ad.add (i * 4)).block, (ad.add (i * 4)).off + 2, none⟩ = some (.string xs) ∧ w'.cell? ⟨(ad.add (i * 4)).block, (ad.add (i * 4)).off + 3, none⟩ = some (.slice A3 xl.length c3) ∧ w'.cell? (ae.add (i * 4)) = some (.int .i64 xa) ∧ w'.cell? ⟨(ae.add (i * 4)).block, (ae.add (i * 4)).off + 1, none⟩ = some (.int .i64 xb) ∧ w'.cell? ⟨(ae.add (i * 4)).block, (ae.add (i * 4)).off + 2, none⟩ = some (.string xs) ∧ w'.cell? ⟨(ae.add (i * 4)).block, (ae.add (i * 4)).off + 3, none⟩ = some (.slice B3 xl.length d3)) (go_keep)
        (first | (go_at_call 39; (with_reducible refine (HX.out A3 c3 B3 d3 _ (Kd.C_below HG.out HE.out.drew.hb) (Kd.C_below HH.out HE.out.drew.hb)).mono ?_); rintro e wq2 ⟨rfl, hq⟩; have HQ := Aside0.mk hq; have tb0 := (hq.cell (World.block_lt_of_cell? wr.drew _ b0)).trans b0; have tb1 := (hq.cell (World.block_lt_of_cell? wr.drew _ b1)).trans b1; have tx0 := (hq.cell (World.block_lt_of_cell? wr.drew _ x0)).trans x0; have tx1 := (hq.cell (World.block_lt_of_cell? wr.drew _ x1)).trans x1; have tx2 := (hq.cell (World.block_lt_of_cell? wr.drew _ x2)).trans x2; have tx3 := (hq.cell (World.block_lt_of_cell? wr.drew _ x3)).trans x3; have ty0 := (hq.cell (World.block_lt_of_cell? wr.drew _ y0)).trans y0; have ty1 := (hq.cell (World.block_lt_of_cell? wr.drew _ y1)).trans y1; have ty2 := (hq.cell (World.block_lt_of_cell? wr.drew _ y2)).trans y2; have ty3 := (hq.cell (World.block_lt_of_cell? wr.drew _ y3)).trans y3; clear hq))
      have HE2 := Aside0.mk (HE.out.drew.go HQ.out)
      clear b0 b1 x0 x1 x2 x3 y0 y1 y2 y3 tb0 tb1 tx0 tx1 tx2 tx3 ty0 ty1 ty2 ty3
      go_wp2
      go_roundw
      case rel => exact ⟨i + 1, by go_num, by have := HI.out; omega, HE2⟩
      case measure => simp [intOf]; have := HI.out; omega
    · obtain rfl : i = l.length := by omega
      have hge : ¬ ((l.length : Int) < (l.length : Int)) := by omega
      have hb := HE.out.hb
      clear HE
      go_wp2
      exact bodyPost_ret (results_tmp Try.results39 _ _ _) rfl ⟨rfl, hb⟩
set_option maxHeartbeats 4000000 in
set_option maxRecDepth 100000 in
theorem list_walk (l : List V) (A1 : Option Addr) (c1 : Nat) (A2 : Option Addr) (c2 : Nat) (w : World) (hC1 : Kd.C k54 w A1 l.length l) (hC2 : Kd.C k57 w A2 l.length (toWs l)) :
    Calls Try.prog 38 #[.slice A1 l.length c1, .slice A2 l.length c2] w fun e w' => e = .returned (.bool true) ∧ Bl w w' := by
  have IH := Aside0.mk (show ∀ x ∈ l, Same x from fun x _ => same_walk x)
  have hu := Try.underlying54
  have hu2 := Try.underlying57
  have H := St.start w
  have HC1 := Aside0.mk hC1
  have HC2 := Aside0.mk hC2
  clear hC1 hC2
  go_enter Try.func38, Try.ntmps38
  have e0 : ((l.length : Int) != (l.length : Int)) = false := bne_self_eq_false _
  go_upto_region 4 with fail
  have HE := Aside0.mk H
  clear H e0
  go_wp2
  go_loopw [13] (fun v13 wr => ∃ (i : Nat), v13 = .int .i64 (i : Int) ∧ i ≤ l.length ∧ Aside0 (St w wr [])) (fun v13 _ => l.length - (intOf v13).toNat)
  case atStart => exact ⟨0, rfl, Nat.zero_le _, HE⟩
  case round =>
    clear HE
    obtain ⟨i, rfl, hi, HE⟩ := hrel
    have hbig : l.length ≤ 9223372036854775807 := by have := HC1.out.2.1; omega
    by_cases hlt : i < l.length
    · have hli : (i : Int) < (l.length : Int) := by omega
      have hi0 : (0 : Int) ≤ (i : Int) := by omega
      have HI := Aside0.mk hlt
      have hx := IH.out l[i] (List.getElem_mem hlt)
      obtain ⟨ad, A3, c3, rfl, x0, x1, x2, x3, l3, g3⟩ := atV HC1.out i hlt hlt
      obtain ⟨ae, B3, d3, rfl, y0, y1, y2, y3, m3, h3⟩ := atW HC2.out i hlt hlt
      generalize l[i] = x at x0 x1 x2 x3 l3 g3 y0 y1 y2 y3 m3 h3 hx
      obtain ⟨xa, xb, xs, xl⟩ := x
      unfold Same at hx
      simp only at x0 x1 x2 x3 l3 g3 y0 y1 y2 y3 m3 h3 hx
      have HX := Aside0.mk hx
      clear hx
      replace x0 := (HE.out.hb.cell (World.block_lt_of_cell? w _ x0)).trans x0
      replace x1 := (HE.out.hb.cell (World.block_lt_of_cell? w _ x1)).trans x1
      replace x2 := (HE.out.hb.cell (World.block_lt_of_cell? w _ x2)).trans x2
      replace x3 := (HE.out.hb.cell (World.block_lt_of_cell? w _ x3)).trans x3
      replace y0 := (HE.out.hb.cell (World.block_lt_of_cell? w _ y0)).trans y0
      replace y1 := (HE.out.hb.cell (World.block_lt_of_cell? w _ y1)).trans y1
      replace y2 := (HE.out.hb.cell (World.block_lt_of_cell? w _ y2)).trans y2
      replace y3 := (HE.out.hb.cell (World.block_lt_of_cell? w _ y3)).trans y3
      have HG := Aside0.mk g3
      have HH := Aside0.mk h3
      clear g3 h3 l3 m3
      go_upto_region 6 with fail
      go_region_held3 (fun w' => w'.cell? (ad.add (i * 4)) = some (.int .i64 xa) ∧ w'.cell? ⟨(ad.add (i * 4)).block, (ad.add (i * 4)).off + 1, none⟩ = some (.int .i64 xb) ∧ w'.cell? ⟨(ad.add (i * 4)).block, (ad.add (i * 4)).off + 2, none⟩ = some (.string xs) ∧ w'.cell? ⟨(ad.add (i * 4)).block, (ad.add (i * 4)).off + 3, none⟩ = some (.slice A3 xl.length c3) ∧ w'.cell? (ae.add (i * 4)) = some (.int .i64 xa) ∧ w'.cell? ⟨(ae.add (i * 4)).block, (ae.add (i * 4)).off + 1, none⟩ = some (.int .i64 xb) ∧ w'.cell? ⟨(ae.add (i * 4)).block, (ae.add (i * 4)).off + 2, none⟩ = some (.string xs) ∧ w'.cell? ⟨(ae.add (i * 4)).block, (ae.add (i * 4)).off + 3, none⟩ = some (.slice B3 xl.length d3)) (go_keep)
        (first | (go_at_call 39; (with_reducible refine (HX.out A3 c3 B3 d3 _ (Kd.C_below HG.out HE.out.drew.hb) (Kd.C_below HH.out HE.out.drew.hb)).mono ?_); rintro e wq2 ⟨rfl, hq⟩; have HQ := Aside0.mk hq; have tx0 := (hq.cell (World.block_lt_of_cell? wr.drew _ x0)).trans x0; have tx1 := (hq.cell (World.block_lt_of_cell? wr.drew _ x1)).trans x1; have tx2 := (hq.cell (World.block_lt_of_cell? wr.drew _ x2)).trans x2; have tx3 := (hq.cell (World.block_lt_of_cell? wr.drew _ x3)).trans x3; have ty0 := (hq.cell (World.block_lt_of_cell? wr.drew _ y0)).trans y0; have ty1 := (hq.cell (World.block_lt_of_cell? wr.drew _ y1)).trans y1; have ty2 := (hq.cell (World.block_lt_of_cell? wr.drew _ y2)).trans y2; have ty3 := (hq.cell (World.block_lt_of_cell? wr.drew _ y3)).trans y3; clear hq))
      have HE2 := Aside0.mk (HE.out.drew.go HQ.out)
      clear x0 x1 x2 x3 y0 y1 y2 y3 tx0 tx1 tx2 tx3 ty0 ty1 ty2 ty3
      go_wp2
      go_roundw
      case rel => exact ⟨i + 1, by go_num, by have := HI.out; omega, HE2⟩
      case measure => simp [intOf]; have := HI.out; omega
    · obtain rfl : i = l.length := by omega
      have hge : ¬ ((l.length : Int) < (l.length : Int)) := by omega
      have hb := HE.out.hb
      clear HE
      go_wp2
      exact bodyPost_ret (results_tmp Try.results38 _ _ _) rfl ⟨rfl, hb⟩
end Go.Proofs.Ytjicfkmpgogppaa.Sm
namespace Go.Proofs.Ytjicfkmpgogppaa.Eq
set_option linter.unusedVariables false
set_option linter.unusedSimpArgs false
open Go Go.RowKit Go.Proofs.Ytjicfkmpgogppaa.Plain Go.Proofs.Ytjicfkmpgogppaa.Vs Go.Proofs.Ytjicfkmpgogppaa.PA Go.Proofs.YtjicfkmpgogppaaW.PrintWords Go.Proofs.YtjicfkmpgogppaaW.PrintLast Go.Proofs.YtjicfkmpgogppaaW.PrintMore
mutual
def eqV : V → V → Bool
  | ⟨a, b, c, l⟩, y => if a = y.f0 then (if a = 0 then b == y.f1 else if a = 1 then c.toList == y.f2.toList else if a = 2 then (if l.length = y.f3.length then eqVs l y.f3 else false) else true) else false
def eqVs : List V → List V → Bool
  | [], _ => true
  | _ :: _, [] => true
  | x :: l, y :: m => if eqV x y = true then eqVs l m else false
end
/-- both values read -/
def Rd (w : World) (x : V) (A : Option Addr) (c : Nat) : Prop := Kd.C k54 w A x.f3.length x.f3 ∧ x.f3.length ≤ c
def EqOk (x : V) : Prop := ∀ (y : V) (A B : Option Addr) (c d : Nat) (w : World), Rd w x A c → Rd w y B d →
  Calls Try.prog 27 #[.agg #[.int .i64 x.f0, .int .i64 x.f1, .string x.f2, .slice A x.f3.length c], .agg #[.int .i64 y.f0, .int .i64 y.f1, .string y.f2, .slice B y.f3.length d]] w fun e w' => e = .returned (.bool (eqV x y)) ∧ Below w.heap.size w w'
theorem eq_use {x : V} (h : EqOk x) (y : V) (A B : Option Addr) (c d : Nat) (w : World) (hx : Rd w x A c) (hy : Rd w y B d) :
    Calls Try.prog 27 #[.agg #[.int .i64 x.f0, .int .i64 x.f1, .string x.f2, .slice A x.f3.length c], .agg #[.int .i64 y.f0, .int .i64 y.f1, .string y.f2, .slice B y.f3.length d]] w fun e w' => e = .returned (.bool (eqV x y)) ∧ Below w.heap.size w w' := h y A B c d w hx hy
set_option maxHeartbeats 8000000 in
set_option maxRecDepth 100000 in
theorem equalFunc_calls (l m : List V) (A B : Option Addr) (c d : Nat) (w : World) (hl : Kd.C k54 w A l.length l) (hc : l.length ≤ c) (hm : Kd.C k54 w B m.length m) (hd : m.length ≤ d) (ih : ∀ x ∈ l, EqOk x) :
    Calls Try.prog 68 #[.slice A l.length c, .slice B m.length d, .func (.func 27) #[] #[]] w fun e w' => e = .returned (.bool (if l.length = m.length then eqVs l m else false)) ∧ Below w.heap.size w w' := by
  have hu := Try.underlying54
  have HL := Aside0.mk hl
  have HM := Aside0.mk hm
  have HC := Aside0.mk hc
  have HD := Aside0.mk hd
  have HI := Aside0.mk ih
  have hl63 : (l.length : Int) ≤ 9223372036854775807 := by have := hl.2.1; omega
  clear hl hm hc hd ih
  by_cases hn : l.length = m.length
  · have hnb : ((l.length : Int) != (m.length : Int)) = false := by simp [hn]
    have hnb' : (l.length != m.length) = false := by simp [hn]
    rw [if_pos hn]
    have HN := Aside0.mk hn
    clear hn
    go_enter Try.func68, Try.ntmps68
    go_wp2
    go_loopw [17] (fun v17 wr => ∃ i : Nat, v17 = .int .i64 (i : Int) ∧ i ≤ l.length ∧ Aside0 (eqVs l m = eqVs (l.drop i) (m.drop i)) ∧ Aside0 (Below w.heap.size w wr)) (fun v17 _ => l.length - (intOf v17).toNat)
    case atStart => exact ⟨0, rfl, Nat.zero_le _, ⟨by simp⟩, ⟨Below.refl _ _⟩⟩
    case round =>
      obtain ⟨i, rfl, hi, HE, HB⟩ := hrel
      by_cases hlt : i < l.length
      · obtain ⟨ad, A3, c3, rfl, x0, x1, x2, x3, lx, gx⟩ := at_T54 HL.out (i : Int) (by omega) (by omega)
        obtain ⟨ae, B3, d3, rfl, y0, y1, y2, y3, ly, gy⟩ := at_T54 HM.out (i : Int) (by omega) (by have := HN.out; omega)
        have hm1 : i < m.length := by have := HN.out; omega
        have rx : rd_T54 l (i : Int) = l[i] := by
          unfold rd_T54
          rw [Int.toNat_natCast, List.getD_eq_getElem?_getD, List.getElem?_eq_getElem hlt, Option.getD_some]
        have ry : rd_T54 m (i : Int) = m[i] := by
          unfold rd_T54
          rw [Int.toNat_natCast, List.getD_eq_getElem?_getD, List.getElem?_eq_getElem hm1, Option.getD_some]
        rw [rx, Int.toNat_natCast] at x0 x1 x2 x3
        rw [rx] at lx gx
        rw [ry, Int.toNat_natCast] at y0 y1 y2 y3
        rw [ry] at ly gy
        have hmem : l[i] ∈ l := List.getElem_mem hlt
        have hstep : eqVs (l.drop i) (m.drop i) = if eqV l[i] m[i] = true then eqVs (l.drop (i + 1)) (m.drop (i + 1)) else false := by
          rw [List.drop_eq_getElem_cons hlt, List.drop_eq_getElem_cons hm1]
          simp only [eqVs]
        have HE' : Aside0 (eqVs l m = if eqV l[i] m[i] = true then eqVs (l.drop (i + 1)) (m.drop (i + 1)) else false) := ⟨HE.out.trans hstep⟩
        have HIx := Aside0.mk (HI.out l[i] hmem)
        clear hstep HE rx ry hmem
        generalize l[i] = x at x0 x1 x2 x3 lx gx HIx HE'
        generalize m[i] = y at y0 y1 y2 y3 ly gy HE'
        replace x0 := (HB.out.cell (World.block_lt_of_cell? w _ x0)).trans x0
        replace x1 := (HB.out.cell (World.block_lt_of_cell? w _ x1)).trans x1
        replace x2 := (HB.out.cell (World.block_lt_of_cell? w _ x2)).trans x2
        replace x3 := (HB.out.cell (World.block_lt_of_cell? w _ x3)).trans x3
        have hli : (i : Int) < (l.length : Int) := by omega
        have hmi : (i : Int) < (m.length : Int) := by omega
        have hi0 : (0 : Int) ≤ (i : Int) := by omega
        go_upto_region 6 with fail
        have hb1 := below_alloc (Below.refl wr.heap.size wr) (.cells #[.int .i64 x.f0, .int .i64 x.f1, .string x.f2, .slice A3 x.f3.length c3] 54)
        have hx1 := blk_new wr (.cells #[.int .i64 x.f0, .int .i64 x.f1, .string x.f2, .slice A3 x.f3.length c3] 54)
        generalize wr.alloc (.cells #[.int .i64 x.f0, .int .i64 x.f1, .string x.f2, .slice A3 x.f3.length c3] 54) = w2 at hb1 hx1 ⊢
        have HB2 := Aside0.mk (below_then HB.out (below_size HB.out) hb1)
        generalize wr.heap.size = bx at hx1 ⊢
        clear x0 x1 x2 x3 hb1 HB
        replace y0 := (HB2.out.cell (World.block_lt_of_cell? w _ y0)).trans y0
        replace y1 := (HB2.out.cell (World.block_lt_of_cell? w _ y1)).trans y1
        replace y2 := (HB2.out.cell (World.block_lt_of_cell? w _ y2)).trans y2
        replace y3 := (HB2.out.cell (World.block_lt_of_cell? w _ y3)).trans y3
        go_upto_region 7 with fail
        have hb1 := below_alloc (Below.refl w2.heap.size w2) (.cells #[.int .i64 y.f0, .int .i64 y.f1, .string y.f2, .slice B3 y.f3.length d3] 54)
        have hy1 := blk_new w2 (.cells #[.int .i64 y.f0, .int .i64 y.f1, .string y.f2, .slice B3 y.f3.length d3] 54)
        have hx2 := blk_alloc hx1 (.cells #[.int .i64 y.f0, .int .i64 y.f1, .string y.f2, .slice B3 y.f3.length d3] 54)
        generalize w2.alloc (.cells #[.int .i64 y.f0, .int .i64 y.f1, .string y.f2, .slice B3 y.f3.length d3] 54) = w3 at hb1 hx2 hy1 ⊢
        have HB3 := Aside0.mk (below_then HB2.out (below_size HB2.out) hb1)
        generalize w2.heap.size = bw at hy1 ⊢
        clear y0 y1 y2 y3 hb1 HB2 hx1
        have c0 : w3.cell? ⟨bx, 0, none⟩ = some (.int .i64 x.f0) := (blk_cell hx2 0).trans rfl
        have c1 : w3.cell? ⟨bx, 1, none⟩ = some (.int .i64 x.f1) := (blk_cell hx2 1).trans rfl
        have c2 : w3.cell? ⟨bx, 2, none⟩ = some (.string x.f2) := (blk_cell hx2 2).trans rfl
        have c3' : w3.cell? ⟨bx, 3, none⟩ = some (.slice A3 x.f3.length c3) := (blk_cell hx2 3).trans rfl
        have d0 : w3.cell? ⟨bw, 0, none⟩ = some (.int .i64 y.f0) := (blk_cell hy1 0).trans rfl
        have d1 : w3.cell? ⟨bw, 1, none⟩ = some (.int .i64 y.f1) := (blk_cell hy1 1).trans rfl
        have d2 : w3.cell? ⟨bw, 2, none⟩ = some (.string y.f2) := (blk_cell hy1 2).trans rfl
        have d3' : w3.cell? ⟨bw, 3, none⟩ = some (.slice B3 y.f3.length d3) := (blk_cell hy1 3).trans rfl
        have HRX := Aside0.mk (show Rd w3 x A3 c3 from ⟨Kd.C_below gx HB3.out, lx⟩)
        have HRY := Aside0.mk (show Rd w3 y B3 d3 from ⟨Kd.C_below gy HB3.out, ly⟩)
        clear gx gy hx2 hy1
        by_cases he : eqV x y = true
        · have HE2 : Aside0 (eqVs l m = eqVs (l.drop (i + 1)) (m.drop (i + 1))) := ⟨by rw [HE'.out, if_pos he]⟩
          go_wp2_with (go_at_call 27; go_loud ((with_reducible refine (eq_use HIx.out y A3 B3 c3 d3 _ HRX.out HRY.out).mono ?_); rintro e w4 ⟨rfl, hb⟩; rw [he]; have HB4 := Aside0.mk (below_then HB3.out (below_size HB3.out) hb); clear hb))
          go_roundw
          case rel => exact ⟨i + 1, by go_num, by omega, HE2, HB4⟩
          case measure => simp [intOf]; omega
        · have he' : eqV x y = false := Bool.eq_false_iff.mpr he
          have HE2 : Aside0 (eqVs l m = false) := ⟨by rw [HE'.out, if_neg he]⟩
          go_wp2_with (go_at_call 27; go_loud ((with_reducible refine (eq_use HIx.out y A3 B3 c3 d3 _ HRX.out HRY.out).mono ?_); rintro e w4 ⟨rfl, hb⟩; rw [he']; have HB4 := Aside0.mk (below_then HB3.out (below_size HB3.out) hb); clear hb))
          go_ret
          exact ⟨by rw [HE2.out]; rfl, HB4.out⟩
      · obtain rfl : i = l.length := by omega
        have hge : ¬ ((l.length : Int) < (l.length : Int)) := by omega
        go_wp2
        go_ret
        refine ⟨?_, HB.out⟩
        have h := HE.out
        rw [List.drop_length] at h
        rw [h]; rfl
  · have hnb : ((l.length : Int) != (m.length : Int)) = true := by simp; omega
    have hnb' : (l.length != m.length) = true := by simp [hn]
    rw [if_neg hn]
    go_enter Try.func68, Try.ntmps68
    go_wp2
    go_ret
    exact ⟨rfl, Below.refl _ _⟩
set_option maxHeartbeats 8000000 in
set_option maxRecDepth 100000 in
theorem equal_calls : ∀ x : V, EqOk x := by
  refine V_ind (fun a b s l ih => ?_)
  intro y A B c d w hx hy
  have hu := Try.underlying54
  have HX := Aside0.mk hx
  have HY := Aside0.mk hy
  have HI := Aside0.mk ih
  clear hx hy ih
  obtain ⟨y0, y1, y2, m⟩ := y
  simp only [eqV]
  have enter := True.intro
  have HB2 : ∀ o1 o2, Below w.heap.size w ((w.alloc o1).alloc o2) := fun o1 o2 => below_alloc (below_alloc (Below.refl _ _) _) _
  by_cases k0 : a = y0
  · subst k0
    have k0' : (a != a) = false := by simp
    rw [if_pos rfl]
    by_cases k1 : a = 0
    · have k1' : (a == 0) = true := by simp [k1]
      rw [if_pos k1]
      clear k1
      go_enter Try.func27, Try.ntmps27
      go_wp2
      go_ret
      exact ⟨rfl, HB2 _ _⟩
    have k1' : (a == 0) = false := by simp [k1]
    rw [if_neg k1]
    by_cases k2 : a = 1
    · have k2' : (a == 1) = true := by simp [k2]
      rw [if_pos k2]
      clear k2
      go_enter Try.func27, Try.ntmps27
      go_wp2
      go_ret
      exact ⟨rfl, HB2 _ _⟩
    have k2' : (a == 1) = false := by simp [k2]
    rw [if_neg k2]
    by_cases k3 : a = 2
    · have k3' : (a == 2) = true := by simp [k3]
      rw [if_pos k3]
      clear k3
      have HC := Aside0.mk (equalFunc_calls l m A B c d ((w.alloc (.cells #[.int .i64 a, .int .i64 b, .string s, .slice A l.length c] 54)).alloc (.cells #[.int .i64 a, .int .i64 y1, .string y2, .slice B m.length d] 54)) (Kd.C_below HX.out.1 (HB2 _ _)) HX.out.2 (Kd.C_below HY.out.1 (HB2 _ _)) HY.out.2 HI.out)
      generalize (if l.length = m.length then eqVs l m else false) = r at HC ⊢
      go_enter Try.func27, Try.ntmps27
      go_wp2_with (go_at_call 68; go_loud ((with_reducible refine HC.out.mono ?_); rintro e w4 ⟨rfl, hb⟩; have HB4 := Aside0.mk (below_then (HB2 _ _) (below_size (HB2 _ _)) hb); clear hb))
      go_ret
      exact ⟨rfl, HB4.out⟩
    · have k3' : (a == 2) = false := by simp [k3]
      rw [if_neg k3]
      go_enter Try.func27, Try.ntmps27
      go_wp2
      go_ret
      exact ⟨rfl, HB2 _ _⟩
  · have k0' : (a != y0) = true := by simp [k0]
    rw [if_neg k0]
    go_enter Try.func27, Try.ntmps27
    go_wp2
    go_ret
    exact ⟨rfl, HB2 _ _⟩
end Go.Proofs.Ytjicfkmpgogppaa.Eq
-- printed by a program of this session out of the translation; see NOTES.md
namespace Go.Proofs.Ytjicfkmpgogppaa.PA
open Go.RowKit Go.Proofs.YtjicfkmpgogppaaW.PrintWords Go.Proofs.YtjicfkmpgogppaaW.PrintLast Go.Proofs.YtjicfkmpgogppaaW.PrintMore
attribute [local go_sem] max2_int min2_int max_two min_two max_three min_three max_four min_four   -- for this text's walks alone
set_option linter.unusedVariables false
set_option linter.unusedSimpArgs false

/-! ### pack_Equal: function 27 -/
def pack_Equal.f (a0_0 : Int) (a0_1 : Int) (a0_2 : ByteArray) (l0_3 : List (S54)) (a1_0 : Int) (a1_1 : Int) (a1_2 : ByteArray) (l1_3 : List (S54)) : Option (Bool) := some (Eq.eqV ⟨a0_0, a0_1, a0_2, l0_3⟩ ⟨a1_0, a1_1, a1_2, l1_3⟩)
theorem pack_Equal.calls (a0_0 : Int) (a0_1 : Int) (a0_2 : ByteArray) (A0_3 : Option Addr) (c0_3 : Nat) (l0_3 : List (S54)) (a1_0 : Int) (a1_1 : Int) (a1_2 : ByteArray) (A1_3 : Option Addr) (c1_3 : Nat) (l1_3 : List (S54)) (r : Bool) (w : World) (hr0_3 : Kd.C k54 w A0_3 l0_3.length l0_3) (hc0_3 : l0_3.length ≤ c0_3) (hr1_3 : Kd.C k54 w A1_3 l1_3.length l1_3) (hc1_3 : l1_3.length ≤ c1_3) (h : pack_Equal.f a0_0 a0_1 a0_2 l0_3 a1_0 a1_1 a1_2 l1_3 = some r) :
  Calls Try.prog 27 #[.agg #[.int .i64 a0_0, .int .i64 a0_1, .string a0_2, .slice A0_3 l0_3.length c0_3], .agg #[.int .i64 a1_0, .int .i64 a1_1, .string a1_2, .slice A1_3 l1_3.length c1_3]] w fun e w' => e = .returned (.bool r) ∧ Below w.heap.size w w' := by
 obtain rfl := Option.some.inj h
 exact Eq.equal_calls ⟨a0_0, a0_1, a0_2, l0_3⟩ ⟨a1_0, a1_1, a1_2, l1_3⟩ A0_3 A1_3 c0_3 c1_3 w ⟨hr0_3, hc0_3⟩ ⟨hr1_3, hc1_3⟩

end Go.Proofs.Ytjicfkmpgogppaa.PA
namespace Go.Proofs.Ytjicfkmpgogppaa.Words
set_option linter.unusedVariables false
set_option linter.unusedSimpArgs false
open Go Go.RowKit Go.Proofs.Ytjicfkmpgogppaa.Plain Go.Proofs.Ytjicfkmpgogppaa.PA Go.Proofs.YtjicfkmpgogppaaW.PrintWords Go.Proofs.YtjicfkmpgogppaaW.PrintLast Go.Proofs.YtjicfkmpgogppaaW.PrintMore

theorem shr64 (n : Int) (i : Int) (h1 : i ≤ 64) : shr .u64 n i = n / 2 ^ i.toNat := by
  unfold shr; rw [Nat.min_eq_left (by simp [IntKind.bits]; omega)]
/-! #### Put -/
theorem put_loop (d : Nat) : ∀ (k : Nat) (n : Int) (xs : List Int), 0 ≤ n → n < 18446744073709551616 → d ≤ 8 → xs.length + d ≤ 8 → d < k →
    words_Put.l0 k n xs ((d : Int) - 1) = some (strOfNums (xs ++ puts d n)) := by
  induction d with
  | zero =>
    intro k n xs h0 h1 hd hx hk
    obtain ⟨k, rfl⟩ : ∃ m, k = m + 1 := ⟨k - 1, by omega⟩
    simp only [words_Put.l0]; rw [if_neg (by omega)]; simp [puts]
  | succ d ih =>
    intro k n xs h0 h1 hd hx hk
    obtain ⟨k, rfl⟩ : ∃ m, k = m + 1 := ⟨k - 1, by omega⟩
    simp only [words_Put.l0]
    rw [show ((d + 1 : Nat) : Int) - 1 = (d : Int) by omega, if_pos (by omega), w64 (n := 8 * (d : Int)) (by omega) (by omega), if_pos (by omega), if_pos (by omega), shr64 _ _ (by omega), w64 (by omega) (by omega), ih k n _ h0 h1 (by omega) (by simp; omega) (by omega), puts_front, pow8]
    simp
theorem put_some {w n : Int} (k : Nat) (h0 : 0 ≤ n) (h1 : n < 18446744073709551616) (hk : 10 ≤ k) : words_Put.f k w n = some (put w n) := by
  unfold words_Put.f put
  have e : mx 0 (mn w 8) = ((max 0 (min w 8)).toNat : Int) := by unfold mx mn; omega
  rw [e, put_loop _ k n [] h0 h1 (by omega) (by simp; omega) (by omega)]
  simp
/-! #### Get -/
theorem or_join (x y : Int) (h0 : 0 ≤ x) (h1 : x < 72057594037927936) (k0 : 0 ≤ y) (k1 : y ≤ 255) : bits .or .u64 (x * 256) y = x * 256 + y := by
  rw [or_u64 _ _ (by omega) (by omega) k0 (by omega)]
  have e : (x * 256).toNat = 2 ^ 8 * x.toNat := by omega
  rw [e, ← Nat.two_pow_add_eq_or_of_lt (by omega)]; omega
theorem get_loop (s : ByteArray) (a w : Int) (h0 : 0 ≤ a) (h1 : a + w ≤ s.size) (hw : w ≤ 8) (hs : s.size ≤ 140737488351232 * 4) (d : Nat) : ∀ (k i : Nat), (i : Int) + d = w → d < k →
    words_Get.l0 k s a w (gets s a i) w i = some (gets s a w.toNat, a + w, 0) := by
  induction d with
  | zero =>
    intro k i hi hk
    obtain ⟨k, rfl⟩ : ∃ m, k = m + 1 := ⟨k - 1, by omega⟩
    simp only [words_Get.l0]; rw [if_neg (by omega), w64 (by omega) (by omega), show i = w.toNat by omega]
  | succ d ih =>
    intro k i hi hk
    obtain ⟨k, rfl⟩ : ∃ m, k = m + 1 := ⟨k - 1, by omega⟩
    simp only [words_Get.l0]
    have hb := bt_range s (a + i)
    have hg := gets_lt s a i
    have hm : (256 : Int) ^ i ≤ 256 ^ 7 := pow256 i (by omega)
    rw [if_pos (by omega), w64 (n := a + i) (by omega) (by omega), if_pos (by omega), if_pos (by omega), wu64, wu64, Int.emod_eq_of_lt (by omega) (by omega), Int.emod_eq_of_lt (by omega) (by omega), or_join _ _ hg.1 (by omega) hb.1 hb.2, w64 (by omega) (by omega)]
    exact ih k (i + 1) (by omega) (by omega)
theorem get_some {s : ByteArray} {a w : Int} (k : Nat) (ha : -9223372036854775808 ≤ a ∧ a ≤ 9223372036854775807) (hs : s.size ≤ 140737488351232 * 4) (hk : 12 ≤ k) : words_Get.f k s a w = some (getR s a w) := by
  unfold words_Get.f getR
  obtain ⟨k, rfl⟩ : ∃ m, k = m + 1 := ⟨k - 1, by omega⟩
  by_cases h1 : w < 1
  · rw [if_pos h1, if_pos (by omega)]; simp [words_Get.j0]
  · rw [if_neg h1]
    by_cases h2 : w > 8
    · rw [if_pos h2, if_pos (by omega)]; simp [words_Get.j0]
    · rw [if_neg h2]
      by_cases h3 : a < 0
      · rw [if_pos h3, if_pos (by omega)]; simp [words_Get.j0]
      · rw [if_neg h3]
        by_cases h4 : a > s.size
        · rw [if_pos (by omega), decide_eq_true h4]; simp [words_Get.j0]
        · rw [if_neg (by omega), decide_eq_false h4]; simp only [words_Get.j0]
          rw [if_neg (by simp), w64 (by omega) (by omega)]
          by_cases h5 : (s.size : Int) - a < w
          · rw [if_pos h5, if_pos h5]
          · rw [if_neg h5, if_neg h5]
            exact get_loop s a w (by omega) (by omega) (by omega) hs w.toNat k 0 (by omega) (by omega)
end Go.Proofs.Ytjicfkmpgogppaa.Words
namespace Go.Proofs.Ytjicfkmpgogppaa.Words
set_option linter.unusedVariables false
set_option linter.unusedSimpArgs false
open Go Go.RowKit Go.Proofs.Ytjicfkmpgogppaa.Plain Go.Proofs.Ytjicfkmpgogppaa.PA Go.Proofs.YtjicfkmpgogppaaW.PrintWords Go.Proofs.YtjicfkmpgogppaaW.PrintLast Go.Proofs.YtjicfkmpgogppaaW.PrintMore
/-- what Text answers -/
def textR (s : ByteArray) : ByteArray × Int := if (s.size : Int) > 65535 then (⟨#[]⟩, 5) else (put 2 s.size ++ s, 0)
/-- what GetText answers -/
def gtextR (s : ByteArray) (a : Int) : ByteArray × Int × Int :=
  if (getR s a 2).2.2 = 0 then (if (s.size : Int) - (getR s a 2).2.1 < (getR s a 2).1 then (⟨#[]⟩, 0, 3)
    else (s.extract (getR s a 2).2.1.toNat ((getR s a 2).2.1 + (getR s a 2).1).toNat, (getR s a 2).2.1 + (getR s a 2).1, 0))
  else (⟨#[]⟩, 0, (getR s a 2).2.2)
theorem text_some {s : ByteArray} (k : Nat) (hs : s.size ≤ 140737488351232 * 4) (hk : 10 ≤ k) : words_Text.f k s = some (textR s) := by
  unfold words_Text.f textR
  by_cases h : (s.size : Int) > 65535
  · rw [if_pos h, if_pos h]
  · rw [if_neg h, if_neg h, wu64, Int.emod_eq_of_lt (by omega) (by omega), put_some k (by omega) (by omega) hk]
    simp only [Option.bind_some]
    rw [if_pos (by rw [size_put]; omega)]
theorem getR2 (s : ByteArray) (a : Int) : (getR s a 2).2.2 = 0 → 0 ≤ a ∧ a + 2 ≤ s.size ∧ getR s a 2 = (gets s a 2, a + 2, 0) ∧ 0 ≤ gets s a 2 ∧ gets s a 2 < 65536 := by
  unfold getR
  by_cases h : (2 : Int) < 1 ∨ (2 : Int) > 8 ∨ a < 0 ∨ a > s.size
  · rw [if_pos h]; intro h; simp at h
  · rw [if_neg h]
    by_cases g : (s.size : Int) - a < 2
    · rw [if_pos g]; intro h; simp at h
    · rw [if_neg g]; intro _
      have := gets_lt s a 2
      exact ⟨by omega, by omega, rfl, this.1, by have := this.2; simpa using this⟩
theorem gtext_some {s : ByteArray} {a : Int} (k : Nat) (ha : -9223372036854775808 ≤ a ∧ a ≤ 9223372036854775807) (hs : s.size ≤ 140737488351232 * 4) (hk : 12 ≤ k) : words_GetText.f k s a = some (gtextR s a) := by
  unfold words_GetText.f gtextR
  rw [get_some k ha hs hk]
  simp only [Option.bind_some]
  by_cases h : (getR s a 2).2.2 = 0
  · obtain ⟨a0, a1, e, g0, g1⟩ := getR2 s a h
    rw [if_pos h, if_pos h, e]
    simp only
    rw [w64 (n := (s.size : Int) - (a + 2)) (by omega) (by omega), wu64, Int.emod_eq_of_lt (by omega) (by omega)]
    by_cases c : (s.size : Int) - (a + 2) < gets s a 2
    · rw [if_pos c, if_pos c]
    · rw [if_neg c, if_neg c, if_pos (by omega), w64 (n := gets s a 2) (by omega) (by omega), w64 (by omega) (by omega), if_pos (by omega), if_pos (by omega)]
  · rw [if_neg h, if_neg h]
end Go.Proofs.Ytjicfkmpgogppaa.Words
namespace Go.Proofs.Ytjicfkmpgogppaa.Vr
set_option linter.unusedVariables false
set_option linter.unusedSimpArgs false
open Go Go.RowKit Go.Proofs.Ytjicfkmpgogppaa.Plain Go.Proofs.Ytjicfkmpgogppaa.Words
/-- the number whose kind was read: the error, itself, the place behind it -/
def intR (s : ByteArray) (i : Int) : Int × Int × Int :=
  if (getR s i 1).2.2 = 0 then
    (if (getR s i 1).1 > 8 then (4, 0, 0) else if (getR s i 1).1 = 0 then (0, 0, (getR s i 1).2.1)
     else if (getR s (getR s i 1).2.1 (getR s i 1).1).2.2 = 0 then
       (if (getR s (getR s i 1).2.1 (getR s i 1).1).1 / 2 ^ (8 * ((getR s i 1).1 - 1)).toNat = 0 then (4, 0, 0)
        else (0, if (getR s (getR s i 1).2.1 (getR s i 1).1).1 % 2 = 0 then (getR s (getR s i 1).2.1 (getR s i 1).1).1 / 2 else -((getR s (getR s i 1).2.1 (getR s i 1).1).1 / 2) - 1, (getR s (getR s i 1).2.1 (getR s i 1).1).2.1))
     else ((getR s (getR s i 1).2.1 (getR s i 1).1).2.2, 0, 0))
  else ((getR s i 1).2.2, 0, 0)
/-- so many values: the error, they, the place behind them -/
def listR {α : Type} (f : Int → Option (Int × α × Int)) : Nat → Int → Option (Int × List α × Int)
  | 0, i => some (0, [], i)
  | n + 1, i => (f i).bind fun r => if r.1 = 0 then ((listR f n r.2.2).bind fun q => some (q.1, r.2.1 :: q.2.1, q.2.2)) else some (r.1, [], 0)
/-- a value that stands in d lists: the error, itself, the place behind it -/
def valR {α : Type} (mk : Int → Int → ByteArray → List α → α) (none_ : α) : Nat → ByteArray → Int → Int → Option (Int × α × Int)
  | 0, _, _, _ => none
  | k + 1, s, i, d =>
    if (getR s i 1).2.2 = 0 then
      (if (getR s i 1).1 = 1 then
        (if (intR s (getR s i 1).2.1).1 = 0 then some (0, mk 0 (intR s (getR s i 1).2.1).2.1 ⟨#[]⟩ [], (intR s (getR s i 1).2.1).2.2) else some ((intR s (getR s i 1).2.1).1, none_, 0))
      else if (getR s i 1).1 = 2 then
        (if (gtextR s (getR s i 1).2.1).2.2 = 0 then
          (if ((gtextR s (getR s i 1).2.1).1.size : Int) > 4096 then some (5, none_, 0) else some (0, mk 1 0 (gtextR s (getR s i 1).2.1).1 [], (gtextR s (getR s i 1).2.1).2.1))
        else some ((gtextR s (getR s i 1).2.1).2.2, none_, 0))
      else if (getR s i 1).1 = 3 then
        (if d ≥ 8 then some (5, none_, 0)
        else if (getR s (getR s i 1).2.1 2).2.2 = 0 then
          (if (getR s (getR s i 1).2.1 2).1 > 256 then some (5, none_, 0)
          else (listR (fun q => valR mk none_ k s q (d + 1)) (getR s (getR s i 1).2.1 2).1.toNat (getR s (getR s i 1).2.1 2).2.1).bind fun r => if r.1 = 0 then some (0, mk 2 0 ⟨#[]⟩ r.2.1, r.2.2) else some (r.1, none_, 0))
        else some ((getR s (getR s i 1).2.1 2).2.2, none_, 0))
      else some (4, none_, 0))
    else some ((getR s i 1).2.2, none_, 0)
end Go.Proofs.Ytjicfkmpgogppaa.Vr
namespace Go.Proofs.Ytjicfkmpgogppaa.Rd
set_option linter.unusedVariables false
set_option linter.unusedSimpArgs false
open Go Go.RowKit Go.Proofs.Ytjicfkmpgogppaa.Mt Go.Proofs.Ytjicfkmpgogppaa.PA Go.Proofs.YtjicfkmpgogppaaW.PrintWords Go.Proofs.YtjicfkmpgogppaaW.PrintLast Go.Proofs.YtjicfkmpgogppaaW.PrintMore
abbrev blkR (s : ByteArray) (i : Int) : Obj := .cells #[.string s, .int .i64 i] 183 (0, 0)
set_option maxHeartbeats 4000000 in
set_option maxRecDepth 100000 in
theorem number_bad (s : ByteArray) (i wd n i2 c : Int) (g : Nat) (w : World) (hb : w.heap[g]? = some (blkR s i)) (hc : c ≠ 0) (h : words_Get.f 20 s i wd = some (n, i2, c)) :
    Calls Try.prog 108 #[.pointer (some ⟨g, 0, none⟩), .int .i64 wd] w fun e w' => e = .panicked [fault c] ∧ ∃ n_, w' = w.drewN n_ := by
  have HF := Aside0.mk h
  have HC := Aside0.mk hc
  have c0 : w.cell? ⟨g, 0, none⟩ = some (.string s) := (blk_cell hb 0).trans rfl
  have c1 : w.cell? ⟨g, 1, none⟩ = some (.int .i64 i) := (blk_cell hb 1).trans rfl
  have f0 := blk_frozen hb 0
  have f1 := blk_frozen hb 1
  clear h hb hc
  have hu := Try.underlying183
  go_enter Try.func108, Try.ntmps108
  go_wp2
  go_region_held3 (fun w' => w'.cell? ⟨g, 0, none⟩ = some (.string s) ∧ w'.cell? ⟨g, 1, none⟩ = some (.int .i64 i)) (go_keep)
    (first | (go_at_call 116; (with_reducible refine (words_Get.calls 20 s i wd n i2 c _ HF.out).mono ?_); rintro e w' ⟨rfl, ⟨nd, rfl⟩⟩))
  go_wp2_with (go_at_call 99; (with_reducible refine (must_bad c HC.out _).mono ?_); rintro e w' ⟨rfl, rfl⟩)
  exact ⟨rfl, rfl, _, rfl⟩
set_option maxHeartbeats 4000000 in
set_option maxRecDepth 100000 in
theorem int_bad1 (s : ByteArray) (i wd i1 c : Int) (g : Nat) (w0 w : World) (hI : IsS183 w0 w g s i) (hB : Below w0.heap.size w0 w) (hc : c ≠ 0) (h1 : words_Get.f 20 s i 1 = some (wd, i1, c)) :
    Calls Try.prog 109 #[.pointer (some ⟨g, 0, none⟩)] w fun e w' => e = .panicked [fault c] ∧ KeepBut w w' g none ∧ Below w0.heap.size w0 w' := by
  have HI := Aside0.mk hI
  have HB := Aside0.mk hB
  have HF := Aside0.mk h1
  clear hI hB h1
  have HC := Aside0.mk hc
  clear hc
  have hu := Try.underlying54
  go_enter Try.func109, Try.ntmps109
  go_wp2_with (go_at_call 108; (with_reducible refine (number_bad s i 1 wd i1 c g _ ?b HC.out HF.out).mono ?_); (case b => exact (HI.out.alloc _).1); rintro e w1 ⟨rfl, nd, hw⟩; have HK1 : Aside0 (KeepBut w w1 g none) := ⟨by rw [hw]; exact keep_drewN (keep_alloc (KeepBut.refl w g none) _) nd⟩; have HB1 : Aside0 (Below w0.heap.size w0 w1) := ⟨by rw [hw]; exact pw_below_drewN (below_alloc HB.out _) nd⟩; clear hw)
  exact ⟨rfl, rfl, HK1.out, HB1.out⟩
set_option maxHeartbeats 4000000 in
set_option maxRecDepth 100000 in
theorem int_long (s : ByteArray) (i wd i1 : Int) (g : Nat) (w0 w : World) (hI : IsS183 w0 w g s i) (hB : Below w0.heap.size w0 w) (h1 : pack_reader_number.f 20 s i 1 = some (wd, s, i1)) (h8 : 8 < wd) (h9 : wd < 256) :
    Calls Try.prog 109 #[.pointer (some ⟨g, 0, none⟩)] w fun e w' => e = .panicked [fault 4] ∧ KeepBut w w' g none ∧ Below w0.heap.size w0 w' := by
  have HI := Aside0.mk hI
  have HB := Aside0.mk hB
  have HF := Aside0.mk h1
  clear hI hB h1
  have e0 : decide (8 < wd) = true := decide_eq_true h8
  have e1 : 0 ≤ wd := by omega
  have e2 : wd ≤ 9223372036854775807 := by omega
  have e4 : wrap64 wd = wd := by unfold wrap64; omega
  have hu := Try.underlying54
  go_enter Try.func109, Try.ntmps109
  go_wp2_with (first | (go_at_call 108; (with_reducible refine (pack_reader_number.calls 20 g s i 1 wd s i1 w0 _ ?b ?bb HF.out).mono ?_); (case b => exact HI.out.alloc _); (case bb => exact below_alloc HB.out _); rintro e w1 ⟨rfl, hi, hb, hk⟩; have HI1 := Aside0.mk hi; have HB1 := Aside0.mk hb; have HK1 := Aside0.mk ((keep_alloc (KeepBut.refl w g none) _).trans hk (.inl rfl)); clear hi hb hk) | (go_at_call 99; (with_reducible refine (must_bad 4 (by decide) _).mono ?_); rintro e w3 ⟨rfl, rfl⟩))
  exact ⟨rfl, rfl, HK1.out, HB1.out⟩
set_option maxHeartbeats 4000000 in
set_option maxRecDepth 100000 in
theorem int_bad2 (s : ByteArray) (i wd i1 n i2 c : Int) (g : Nat) (w0 w : World) (hI : IsS183 w0 w g s i) (hB : Below w0.heap.size w0 w) (hc : c ≠ 0) (h1 : pack_reader_number.f 20 s i 1 = some (wd, s, i1)) (h8 : 1 ≤ wd) (h9 : wd ≤ 8) (h2 : words_Get.f 20 s i1 wd = some (n, i2, c)) :
    Calls Try.prog 109 #[.pointer (some ⟨g, 0, none⟩)] w fun e w' => e = .panicked [fault c] ∧ KeepBut w w' g none ∧ Below w0.heap.size w0 w' := by
  have HI := Aside0.mk hI
  have HB := Aside0.mk hB
  have HF := Aside0.mk h1
  clear hI hB h1
  have HC := Aside0.mk hc
  have HG := Aside0.mk h2
  clear hc h2
  have e0 : decide (8 < wd) = false := decide_eq_false (by omega)
  have e1 : 0 ≤ wd := by omega
  have e2 : wd ≤ 9223372036854775807 := by omega
  have e3 : (wd == 0) = false := beq_eq_false_iff_ne.mpr (by omega)
  have e4 : wrap64 wd = wd := by unfold wrap64; omega
  have hu := Try.underlying54
  go_enter Try.func109, Try.ntmps109
  go_wp2_with (first | (go_at_call 108; (with_reducible refine (pack_reader_number.calls 20 g s i 1 wd s i1 w0 _ ?b ?bb HF.out).mono ?_); (case b => exact HI.out.alloc _); (case bb => exact below_alloc HB.out _); rintro e w1 ⟨rfl, hi, hb, hk⟩; have HI1 := Aside0.mk hi; have HB1 := Aside0.mk hb; have HK1 := Aside0.mk ((keep_alloc (KeepBut.refl w g none) _).trans hk (.inl rfl)); clear hi hb hk) | (go_at_call 108; (with_reducible refine (number_bad s i1 wd n i2 c g _ ?b HC.out HG.out).mono ?_); (case b => exact HI1.out.1); rintro e w2 ⟨rfl, nd, rfl⟩; have HK2 := Aside0.mk (keep_drewN HK1.out nd); have HB2 := Aside0.mk (pw_below_drewN HB1.out nd)))
  exact ⟨rfl, rfl, HK2.out, HB2.out⟩
set_option maxHeartbeats 4000000 in
set_option maxRecDepth 100000 in
theorem int_zero (s : ByteArray) (i wd i1 n i2 : Int) (g : Nat) (w0 w : World) (hI : IsS183 w0 w g s i) (hB : Below w0.heap.size w0 w) (h1 : pack_reader_number.f 20 s i 1 = some (wd, s, i1)) (h8 : 1 ≤ wd) (h9 : wd ≤ 8) (h2 : pack_reader_number.f 20 s i1 wd = some (n, s, i2)) (h3 : n / 2 ^ (8 * (wd - 1)).toNat = 0) :
    Calls Try.prog 109 #[.pointer (some ⟨g, 0, none⟩)] w fun e w' => e = .panicked [fault 4] ∧ KeepBut w w' g none ∧ Below w0.heap.size w0 w' := by
  have HI := Aside0.mk hI
  have HB := Aside0.mk hB
  have HF := Aside0.mk h1
  clear hI hB h1
  have HG := Aside0.mk h2
  clear h2
  have e0 : decide (8 < wd) = false := decide_eq_false (by omega)
  have e1 : 0 ≤ wd := by omega
  have e2 : wd ≤ 9223372036854775807 := by omega
  have e3 : (wd == 0) = false := beq_eq_false_iff_ne.mpr (by omega)
  have e4 : wrap64 wd = wd := by unfold wrap64; omega
  have e5 : (n / 2 ^ (8 * (wd - 1)).toNat == 0) = true := beq_iff_eq.mpr h3
  clear h3
  have hu := Try.underlying54
  go_enter Try.func109, Try.ntmps109
  go_wp2_with (first | (go_at_call 108; (with_reducible refine (pack_reader_number.calls 20 g s i 1 wd s i1 w0 _ ?b ?bb HF.out).mono ?_); (case b => exact HI.out.alloc _); (case bb => exact below_alloc HB.out _); rintro e w1 ⟨rfl, hi, hb, hk⟩; have HI1 := Aside0.mk hi; have HB1 := Aside0.mk hb; have HK1 := Aside0.mk ((keep_alloc (KeepBut.refl w g none) _).trans hk (.inl rfl)); clear hi hb hk) | (go_at_call 108; (with_reducible refine (pack_reader_number.calls 20 g s i1 wd n s i2 w0 _ ?b ?bb HG.out).mono ?_); (case b => exact HI1.out); (case bb => exact HB1.out); rintro e w2 ⟨rfl, hi, hb, hk⟩; have HI2 := Aside0.mk hi; have HB2 := Aside0.mk hb; have HK2 := Aside0.mk (HK1.out.trans hk (.inl rfl)); clear hi hb hk) | (go_at_call 99; (with_reducible refine (must_bad 4 (by decide) _).mono ?_); rintro e w3 ⟨rfl, rfl⟩))
  all_goals exact ⟨rfl, rfl, HK2.out, HB2.out⟩
end Go.Proofs.Ytjicfkmpgogppaa.Rd
namespace Go.Proofs.Ytjicfkmpgogppaa.WordsA
set_option linter.unusedVariables false
set_option linter.unusedSimpArgs false
open Go Go.RowKit Go.Proofs.Ytjicfkmpgogppaa.Plain Go.Proofs.Ytjicfkmpgogppaa.PA Go.Proofs.YtjicfkmpgogppaaW.PrintWords Go.Proofs.YtjicfkmpgogppaaW.PrintLast Go.Proofs.YtjicfkmpgogppaaW.PrintMore

theorem shr64 (n : Int) (i : Int) (h1 : i ≤ 64) : shr .u64 n i = n / 2 ^ i.toNat := by
  unfold shr; rw [Nat.min_eq_left (by simp [IntKind.bits]; omega)]
/-! #### Put -/
theorem put_loop (d : Nat) : ∀ (k : Nat) (n : Int) (xs : List Int), 0 ≤ n → n < 18446744073709551616 → d ≤ 8 → xs.length + d ≤ 8 → d < k →
    words_Put.l0 k n xs ((d : Int) - 1) = some (strOfNums (xs ++ puts d n)) := by
  induction d with
  | zero =>
    intro k n xs h0 h1 hd hx hk
    obtain ⟨k, rfl⟩ : ∃ m, k = m + 1 := ⟨k - 1, by omega⟩
    simp only [words_Put.l0]; rw [if_neg (by omega)]; simp [puts]
  | succ d ih =>
    intro k n xs h0 h1 hd hx hk
    obtain ⟨k, rfl⟩ : ∃ m, k = m + 1 := ⟨k - 1, by omega⟩
    simp only [words_Put.l0]
    rw [show ((d + 1 : Nat) : Int) - 1 = (d : Int) by omega, if_pos (by omega), w64 (n := 8 * (d : Int)) (by omega) (by omega), if_pos (by omega), if_pos (by omega), shr64 _ _ (by omega), w64 (by omega) (by omega), ih k n _ h0 h1 (by omega) (by simp; omega) (by omega), puts_front, pow8]
    simp
theorem put_some {w n : Int} (k : Nat) (h0 : 0 ≤ n) (h1 : n < 18446744073709551616) (hk : 10 ≤ k) : words_Put.f k w n = some (put w n) := by
  unfold words_Put.f put
  have e : mx 0 (mn w 8) = ((max 0 (min w 8)).toNat : Int) := by unfold mx mn; omega
  rw [e, put_loop _ k n [] h0 h1 (by omega) (by simp; omega) (by omega)]
  simp
/-! #### Get -/
theorem or_join (x y : Int) (h0 : 0 ≤ x) (h1 : x < 72057594037927936) (k0 : 0 ≤ y) (k1 : y ≤ 255) : bits .or .u64 (x * 256) y = x * 256 + y := by
  rw [or_u64 _ _ (by omega) (by omega) k0 (by omega)]
  have e : (x * 256).toNat = 2 ^ 8 * x.toNat := by omega
  rw [e, ← Nat.two_pow_add_eq_or_of_lt (by omega)]; omega
end Go.Proofs.Ytjicfkmpgogppaa.WordsA
namespace Go.Proofs.Ytjicfkmpgogppaa.WordsA
set_option linter.unusedVariables false
set_option linter.unusedSimpArgs false
open Go Go.RowKit Go.Proofs.Ytjicfkmpgogppaa.Plain Go.Proofs.Ytjicfkmpgogppaa.PA Go.Proofs.YtjicfkmpgogppaaW.PrintWords Go.Proofs.YtjicfkmpgogppaaW.PrintLast Go.Proofs.YtjicfkmpgogppaaW.PrintMore
/-- what Text answers -/
def textR (s : ByteArray) : ByteArray × Int := if (s.size : Int) > 65535 then (⟨#[]⟩, 5) else (put 2 s.size ++ s, 0)
/-- what GetText answers -/
def gtextR (s : ByteArray) (a : Int) : ByteArray × Int × Int :=
  if (getR s a 2).2.2 = 0 then (if (s.size : Int) - (getR s a 2).2.1 < (getR s a 2).1 then (⟨#[]⟩, 0, 3)
    else (s.extract (getR s a 2).2.1.toNat ((getR s a 2).2.1 + (getR s a 2).1).toNat, (getR s a 2).2.1 + (getR s a 2).1, 0))
  else (⟨#[]⟩, 0, (getR s a 2).2.2)
theorem text_some {s : ByteArray} (k : Nat) (hs : s.size ≤ 140737488351232 * 4) (hk : 10 ≤ k) : words_Text.f k s = some (textR s) := by
  unfold words_Text.f textR
  by_cases h : (s.size : Int) > 65535
  · rw [if_pos h, if_pos h]
  · rw [if_neg h, if_neg h, wu64, Int.emod_eq_of_lt (by omega) (by omega), put_some k (by omega) (by omega) hk]
    simp only [Option.bind_some]
    rw [if_pos (by rw [size_put]; omega)]
theorem getR2 (s : ByteArray) (a : Int) : (getR s a 2).2.2 = 0 → 0 ≤ a ∧ a + 2 ≤ s.size ∧ getR s a 2 = (gets s a 2, a + 2, 0) ∧ 0 ≤ gets s a 2 ∧ gets s a 2 < 65536 := by
  unfold getR
  by_cases h : (2 : Int) < 1 ∨ (2 : Int) > 8 ∨ a < 0 ∨ a > s.size
  · rw [if_pos h]; intro h; simp at h
  · rw [if_neg h]
    by_cases g : (s.size : Int) - a < 2
    · rw [if_pos g]; intro h; simp at h
    · rw [if_neg g]; intro _
      have := gets_lt s a 2
      exact ⟨by omega, by omega, rfl, this.1, by have := this.2; simpa using this⟩
end Go.Proofs.Ytjicfkmpgogppaa.WordsA
namespace Go.Proofs.Ytjicfkmpgogppaa.Pk
set_option linter.unusedVariables false
set_option linter.unusedSimpArgs false
open Go Go.RowKit Go.Proofs.Ytjicfkmpgogppaa.Plain Go.Proofs.Ytjicfkmpgogppaa.WordsA Go.Proofs.Ytjicfkmpgogppaa.Bld Go.Proofs.Ytjicfkmpgogppaa.PA Go.Proofs.YtjicfkmpgogppaaW.PrintWords Go.Proofs.YtjicfkmpgogppaaW.PrintLast Go.Proofs.YtjicfkmpgogppaaW.PrintMore
/-- how many bytes a number has -/
def wdl : Nat → Int → Nat
  | 0, _ => 0
  | k + 1, n => if n > 0 then wdl k (n / 256) + 1 else 0
def foldR (n : Int) : Int := if 0 ≤ n then 2 * n else -2 * n - 1
def intB (n : Int) : ByteArray := ((⟨#[1]⟩ : ByteArray) ++ put 1 (wdl 9 (foldR n))) ++ put (wdl 9 (foldR n)) (foldR n)
def putL (f : S54 → Int → Option (ByteArray × Int)) : List S54 → Int → Option (ByteArray × Int)
  | [], _ => some (⟨#[]⟩, 0)
  | x :: r, d => (f x d).bind fun t => if t.2 = 0 then ((putL f r d).bind fun u => some (t.1 ++ u.1, u.2)) else some (t.1, t.2)
def headB (n : Nat) (u : ByteArray) : ByteArray := ((⟨#[3]⟩ : ByteArray) ++ put 2 n) ++ u
def pack_put.f : Nat → Int → Int → ByteArray → List S54 → Int → Option (ByteArray × Int)
  | 0, _, _, _, _, _ => none
  | k + 1, a0, a1, a2, l3, d =>
    if a0 = 0 then (if -9223372036854775808 ≤ a1 ∧ a1 ≤ 9223372036854775807 then some (intB a1, 0) else none)
    else if a0 = 1 then (if (a2.size : Int) > 4096 then some (⟨#[]⟩, 5) else some ((⟨#[2]⟩ : ByteArray) ++ (textR a2).1, 0))
    else if a0 = 2 then (if (l3.length : Int) > 256 then some (⟨#[]⟩, 5) else if d ≥ 8 then some (⟨#[]⟩, 5)
      else (putL (fun x e => pack_put.f k x.f0 x.f1 x.f2 x.f3 e) l3 (wrap64 (d + 1))).bind fun u => some (headB l3.length u.1, u.2))
    else some (⟨#[]⟩, 2)
theorem wdl_step (k : Nat) (n : Int) (h : n > 0) : wdl (k + 1) n = wdl k (n / 256) + 1 := by simp [wdl, h]
theorem byteCells_strCells (s : ByteArray) : Lib.strCells s = Lib.byteCells s.data.toList := by
  simp [Lib.strCells, Lib.byteCells]
theorem bld_below {T e : TypeId} {B b : Nat} {bs : List Value} {w w1 : World} (h : Lib.IsBuilder T e B b bs w) (hb : Below w.heap.size w w1) : Lib.IsBuilder T e B b bs w1 := by
  have key : ∀ {p : Value}, Lib.BuilderAt T e B b p bs w → Lib.BuilderAt T e B b p bs w1 := by
    rintro p ⟨hB, v, hbk, hown, hne⟩
    exact ⟨hB, v, (hb.block b (blk_lt hbk)).trans hbk, pw_own_below hown hb, hne⟩
  rcases h with h | h
  · exact .inl (key h)
  · exact .inr (key h)
theorem bld_alloc {T e : TypeId} {B b : Nat} {bs : List Value} {w : World} (h : Lib.IsBuilder T e B b bs w) (o : Obj) : Lib.IsBuilder T e B b bs (w.alloc o) := bld_below h (below_alloc (Below.refl _ _) o)
theorem bld_drewN {T e : TypeId} {B b : Nat} {bs : List Value} {w : World} (h : Lib.IsBuilder T e B b bs w) (n : Nat) : Lib.IsBuilder T e B b bs (w.drewN n) := bld_below h (pw_below_drewN (Below.refl _ _) n)
theorem bld_lt {T e : TypeId} {B b : Nat} {bs : List Value} {w : World} (h : Lib.IsBuilder T e B b bs w) : b < w.heap.size := by
  rcases h with h | h <;> exact h.lt
theorem alloc_new (w : World) (o : Obj) : (w.alloc o).heap[w.heap.size]? = some o := by
  show (w.heap.push o)[w.heap.size]? = _
  simp
theorem below_step' {w0 w w1 : World} (h : Below w0.heap.size w0 w) (hb : Below w.heap.size w w1) : Below w0.heap.size w0 w1 := below_then h h.size hb
set_option maxHeartbeats 4000000 in
set_option maxRecDepth 100000 in
theorem put_int (a1 : Int) (a2 : ByteArray) (A3 : Option Addr) (n3 c3 : Nat) (d : Int) (bs : List UInt8) (b : Nat) (w0 w : World) (hn : -9223372036854775808 ≤ a1 ∧ a1 ≤ 9223372036854775807)
    (HB : Below w0.heap.size w0 w) (hI : Lib.IsBuilder 176 5 w0.heap.size b (Lib.byteCells bs) w) (hlen : bs.length + (intB a1).size ≤ 140737488355328) :
    Calls Try.prog 94 #[.pointer (some ⟨b, 0, none⟩), .agg #[.int .i64 0, .int .i64 a1, .string a2, .slice A3 n3 c3], .int .i64 d] w fun e w' =>
      e = .returned (.int .i64 0) ∧ Lib.IsBuilder 176 5 w0.heap.size b (Lib.byteCells (bs ++ (intB a1).data.toList)) w' ∧ Below w0.heap.size w0 w' ∧ KeepT b w w' := by
  have hF : Hid (words_Fold.f a1 = some (foldR a1)) := Lib.hid (fold_some hn.1 hn.2)
  have hF0 : 0 ≤ foldR a1 := by unfold foldR; split <;> omega
  have hF1 : foldR a1 < 18446744073709551616 := by unfold foldR; split <;> omega
  have hL : Hid (bs.length + (intB a1).size ≤ 140737488355328) := Lib.hid hlen
  have hI' : Hid (Lib.IsBuilder 176 5 w0.heap.size b (Lib.byteCells bs) w) := Lib.hid hI
  have HB' : Hid (Below w0.heap.size w0 w) := Lib.hid HB
  have hO : Hid (intB a1 = ((⟨#[1]⟩ : ByteArray) ++ put 1 (wdl 9 (foldR a1))) ++ put (wdl 9 (foldR a1)) (foldR a1)) := Lib.hid rfl
  clear hlen hI HB
  generalize foldR a1 = F at *
  have hu := Try.underlying54
  go_enter Try.func94, Try.ntmps94
  go_wp2_with (go_at_call 101; (with_reducible refine (words_Fold.calls a1 F _ hF.out).mono ?_); rintro e w' ⟨rfl, ⟨nd, rfl⟩⟩)
  go_loop [8, 9] (fun c m => ∃ (i : Nat) (x : Int), c = .int .i64 i ∧ m = .int .u64 x ∧ 0 ≤ x ∧ x < 256 ^ (8 - i) ∧ i ≤ 8 ∧ i + wdl (9 - i) x = wdl 9 F) (fun _ m => (intOf m).toNat)
  case atStart => exact ⟨0, F, rfl, rfl, hF0, hF1, by omega, by simp⟩
  case round =>
    obtain ⟨i, x, rfl, rfl, hx0, hx1, hi, hw⟩ := hrel
    by_cases hx : 0 < x
    · have hi8 : i < 8 := by
        rcases Nat.lt_or_ge i 8 with h | h
        · exact h
        · rw [show 8 - i = 0 by omega] at hx1; simp at hx1; omega
      have hw' : Hid (i + 1 + wdl (9 - (i + 1)) (x / 256) = wdl 9 F) := by
        refine Lib.hid ?_
        rw [show 9 - i = (9 - (i + 1)) + 1 by omega, wdl_step _ _ hx] at hw; omega
      have hx1' : Hid (x / 256 < 256 ^ (8 - (i + 1))) := by
        refine Lib.hid ?_
        rw [show 8 - i = (8 - (i + 1)) + 1 by omega, Int.pow_succ] at hx1; omega
      clear hw hx1
      go_wp2
      go_round
      case rel => exact ⟨i + 1, x / 256, by go_num, rfl, by omega, hx1'.out, by omega, hw'.out⟩
      case measure => simp [intOf]; omega
    · obtain rfl : x = 0 := by omega
      have hw' : i = wdl 9 F := by
        rw [← hw]
        cases h9 : 9 - i <;> simp [wdl]
      clear hw hx hx1
      subst hw'
      have hw8 : wdl 9 F ≤ 8 := hi
      have hP1 : Hid (words_Put.f 20 1 (wdl 9 F : Nat) = some (put 1 (wdl 9 F : Nat))) := Lib.hid (put_some 20 (by omega) (by omega) (by omega))
      have hP2 : Hid (words_Put.f 20 (wdl 9 F : Nat) F = some (put (wdl 9 F : Nat) F)) := Lib.hid (put_some 20 hF0 hF1 (by omega))
      have z1 : (put 1 (wdl 9 F : Nat)).size = 1 := by rw [size_put]; rfl
      have z2 : (put (wdl 9 F : Nat) F).size = wdl 9 F := by rw [size_put]; omega
      have t1 : 1 + (put 1 (wdl 9 F : Nat)).size ≤ 9223372036854775807 := by omega
      have t2 : 1 + (put 1 (wdl 9 F : Nat)).size + (put (wdl 9 F : Nat) F).size ≤ 9223372036854775807 := by omega
      clear z1 z2
      have t1b := eq_true t1
      have t1c : (9223372036854775807 < 1 + (put 1 (wdl 9 F : Nat)).size) = False := eq_false (Nat.not_lt.2 t1)
      have t2b := eq_true t2
      have t2c : (9223372036854775807 < 1 + (put 1 (wdl 9 F : Nat)).size + (put (wdl 9 F : Nat) F).size) = False := eq_false (Nat.not_lt.2 t2)
      clear t1 t2
      go_wp2_with (first
        | (go_at_call 103; (with_reducible refine (words_Put.calls 20 1 (wdl 9 F : Nat) _ _ hP1.out).mono ?_); rintro e w1 ⟨rfl, hb1⟩; have HB1 := Aside0.mk (below_step' (pw_below_drewN (below_alloc HB'.out _) nd) hb1); have HI1 := Aside0.mk (bld_below (bld_drewN (bld_alloc hI'.out _) nd) hb1); have HX1 := Aside0.mk (below_step' (pw_below_drewN (below_alloc (Below.refl w.heap.size w) _) nd) hb1); clear hb1)
        | (go_at_call 103; (with_reducible refine (words_Put.calls 20 (wdl 9 F : Nat) F _ _ hP2.out).mono ?_); rintro e w2 ⟨rfl, hb2⟩; have HB2 := Aside0.mk (below_step' HB1.out hb2); have HI2 := Aside0.mk (bld_below HI1.out hb2); have HX2 := Aside0.mk (below_step' HX1.out hb2); clear hb2)
        | (go_at_call 102; (with_reducible refine (writeString _ b _ (((⟨#[1]⟩ : ByteArray) ++ put 1 (wdl 9 F : Nat)) ++ put (wdl 9 F : Nat) F) _ HI2.out ?c1 HB2.out.size).mono ?_); (case c1 => rw [← hO.out, Lib.byteCells_length]; exact hL.out); rintro e w3 ⟨rfl, hI3, hb3, hk3⟩; have HI3 := Aside0.mk hI3; have HB3 := Aside0.mk hb3; have HK3 := Aside0.mk hk3; clear hI3 hb3 hk3))
      go_ret
      have e := HI3.out
      rw [← hO.out, byteCells_strCells] at e
      have e2 : Lib.byteCells (bs ++ (intB a1).data.toList) = Lib.byteCells bs ++ Lib.byteCells (intB a1).data.toList := by simp [Lib.byteCells]
      exact ⟨rfl, Or.inr (by rw [e2]; exact e), HB2.out.trans HB3.out, (KeepT.below HX2.out).trans HK3.out⟩
set_option maxHeartbeats 4000000 in
set_option maxRecDepth 100000 in
theorem put_text_long (a1 : Int) (a2 : ByteArray) (A3 : Option Addr) (n3 c3 : Nat) (d : Int) (bs : List UInt8) (b : Nat) (w0 w : World) (h : 4096 < a2.size)
    (HB : Below w0.heap.size w0 w) (hI : Lib.IsBuilder 176 5 w0.heap.size b (Lib.byteCells bs) w) :
    Calls Try.prog 94 #[.pointer (some ⟨b, 0, none⟩), .agg #[.int .i64 1, .int .i64 a1, .string a2, .slice A3 n3 c3], .int .i64 d] w fun e w' =>
      e = .returned (.int .i64 5) ∧ Lib.IsBuilder 176 5 w0.heap.size b (Lib.byteCells (bs ++ [])) w' ∧ Below w0.heap.size w0 w' ∧ KeepT b w w' := by
  have h1 : decide (4096 < a2.size) = true := decide_eq_true h
  have h2 : decide ((4096 : Int) < (a2.size : Int)) = true := decide_eq_true (by omega)
  clear h
  have hI' : Hid (Lib.IsBuilder 176 5 w0.heap.size b (Lib.byteCells bs) w) := Lib.hid hI
  have HB' : Hid (Below w0.heap.size w0 w) := Lib.hid HB
  clear hI HB
  have hu := Try.underlying54
  go_enter Try.func94, Try.ntmps94
  go_wp2
  go_ret
  refine ⟨rfl, by rw [List.append_nil]; exact bld_alloc hI'.out _, below_alloc HB'.out _, KeepT.below (below_alloc (Below.refl w.heap.size w) _)⟩
set_option maxHeartbeats 4000000 in
set_option maxRecDepth 100000 in
theorem put_text (a1 : Int) (a2 : ByteArray) (A3 : Option Addr) (n3 c3 : Nat) (d : Int) (bs : List UInt8) (b : Nat) (w0 w : World) (h : a2.size ≤ 4096)
    (HB : Below w0.heap.size w0 w) (hI : Lib.IsBuilder 176 5 w0.heap.size b (Lib.byteCells bs) w) (hlen : bs.length + ((⟨#[2]⟩ : ByteArray) ++ (textR a2).1).size ≤ 140737488355328) :
    Calls Try.prog 94 #[.pointer (some ⟨b, 0, none⟩), .agg #[.int .i64 1, .int .i64 a1, .string a2, .slice A3 n3 c3], .int .i64 d] w fun e w' =>
      e = .returned (.int .i64 0) ∧ Lib.IsBuilder 176 5 w0.heap.size b (Lib.byteCells (bs ++ ((⟨#[2]⟩ : ByteArray) ++ (textR a2).1).data.toList)) w' ∧ Below w0.heap.size w0 w' ∧ KeepT b w w' := by
  have h1 : decide (4096 < a2.size) = false := decide_eq_false (by omega)
  have h2 : decide ((4096 : Int) < (a2.size : Int)) = false := decide_eq_false (by omega)
  have hT : Hid (words_Text.f 20 a2 = some ((textR a2).1, (textR a2).2)) := Lib.hid (text_some 20 (by omega) (by omega))
  have hS : (textR a2).1.size = 2 + a2.size := by
    unfold textR; rw [if_neg (by omega)]; show (put 2 a2.size ++ a2).size = _; rw [ByteArray.size_append, size_put]; rfl
  have hL : Hid (bs.length + ((⟨#[2]⟩ : ByteArray) ++ (textR a2).1).size ≤ 140737488355328) := Lib.hid hlen
  clear hlen
  generalize (textR a2).1 = S at *
  generalize (textR a2).2 = E at *
  have t1 : 1 + S.size ≤ 9223372036854775807 := by omega
  clear h hS
  have t1b := eq_true t1
  have t1c : (9223372036854775807 < 1 + S.size) = False := eq_false (Nat.not_lt.2 t1)
  clear t1
  have hI' : Hid (Lib.IsBuilder 176 5 w0.heap.size b (Lib.byteCells bs) w) := Lib.hid hI
  have HB' : Hid (Below w0.heap.size w0 w) := Lib.hid HB
  clear hI HB
  have hu := Try.underlying54
  go_enter Try.func94, Try.ntmps94
  go_wp2_with (first
    | (go_at_call 104; (with_reducible refine (words_Text.calls 20 a2 S E _ hT.out).mono ?_); rintro e w1 ⟨rfl, hb1⟩; have HB1 := Aside0.mk (below_step' (below_alloc HB'.out _) hb1); have HI1 := Aside0.mk (bld_below (bld_alloc hI'.out _) hb1); have HX1 := Aside0.mk (below_step' (below_alloc (Below.refl w.heap.size w) _) hb1); clear hb1)
    | (go_at_call 102; (with_reducible refine (writeString _ b _ ((⟨#[2]⟩ : ByteArray) ++ S) _ HI1.out ?c1 HB1.out.size).mono ?_); (case c1 => rw [Lib.byteCells_length]; exact hL.out); rintro e w3 ⟨rfl, hI3, hb3, hk3⟩; have HI3 := Aside0.mk hI3; have HB3 := Aside0.mk hb3; have HK3 := Aside0.mk hk3; clear hI3 hb3 hk3))
  go_ret
  have e := HI3.out
  rw [byteCells_strCells] at e
  have e2 : Lib.byteCells (bs ++ ((⟨#[2]⟩ : ByteArray) ++ S).data.toList) = Lib.byteCells bs ++ Lib.byteCells ((⟨#[2]⟩ : ByteArray) ++ S).data.toList := by simp [Lib.byteCells]
  exact ⟨rfl, Or.inr (by rw [e2]; exact e), HB1.out.trans HB3.out, (KeepT.below HX1.out).trans HK3.out⟩
set_option maxHeartbeats 4000000 in
set_option maxRecDepth 100000 in
theorem put_list_long (a1 : Int) (a2 : ByteArray) (A3 : Option Addr) (n3 c3 : Nat) (d : Int) (bs : List UInt8) (b : Nat) (w0 w : World) (h : 256 < n3)
    (HB : Below w0.heap.size w0 w) (hI : Lib.IsBuilder 176 5 w0.heap.size b (Lib.byteCells bs) w) :
    Calls Try.prog 94 #[.pointer (some ⟨b, 0, none⟩), .agg #[.int .i64 2, .int .i64 a1, .string a2, .slice A3 n3 c3], .int .i64 d] w fun e w' =>
      e = .returned (.int .i64 5) ∧ Lib.IsBuilder 176 5 w0.heap.size b (Lib.byteCells (bs ++ [])) w' ∧ Below w0.heap.size w0 w' ∧ KeepT b w w' := by
  have h1 : decide (256 < n3) = true := decide_eq_true h
  have h2 : decide ((256 : Int) < (n3 : Int)) = true := decide_eq_true (by omega)
  clear h
  have hI' : Hid (Lib.IsBuilder 176 5 w0.heap.size b (Lib.byteCells bs) w) := Lib.hid hI
  have HB' : Hid (Below w0.heap.size w0 w) := Lib.hid HB
  clear hI HB
  have hu := Try.underlying54
  go_enter Try.func94, Try.ntmps94
  go_wp2
  go_ret
  refine ⟨rfl, by rw [List.append_nil]; exact bld_alloc hI'.out _, below_alloc HB'.out _, KeepT.below (below_alloc (Below.refl w.heap.size w) _)⟩
set_option maxHeartbeats 4000000 in
set_option maxRecDepth 100000 in
theorem put_list_deep (a1 : Int) (a2 : ByteArray) (A3 : Option Addr) (n3 c3 : Nat) (d : Int) (bs : List UInt8) (b : Nat) (w0 w : World) (h : n3 ≤ 256) (hd : 8 ≤ d)
    (HB : Below w0.heap.size w0 w) (hI : Lib.IsBuilder 176 5 w0.heap.size b (Lib.byteCells bs) w) :
    Calls Try.prog 94 #[.pointer (some ⟨b, 0, none⟩), .agg #[.int .i64 2, .int .i64 a1, .string a2, .slice A3 n3 c3], .int .i64 d] w fun e w' =>
      e = .returned (.int .i64 5) ∧ Lib.IsBuilder 176 5 w0.heap.size b (Lib.byteCells (bs ++ [])) w' ∧ Below w0.heap.size w0 w' ∧ KeepT b w w' := by
  have h1 : decide (256 < n3) = false := decide_eq_false (by omega)
  have h2 : decide ((256 : Int) < (n3 : Int)) = false := decide_eq_false (by omega)
  have h3 : decide (8 ≤ d) = true := decide_eq_true hd
  clear h hd
  have hI' : Hid (Lib.IsBuilder 176 5 w0.heap.size b (Lib.byteCells bs) w) := Lib.hid hI
  have HB' : Hid (Below w0.heap.size w0 w) := Lib.hid HB
  clear hI HB
  have hu := Try.underlying54
  go_enter Try.func94, Try.ntmps94
  go_wp2
  go_ret
  refine ⟨rfl, by rw [List.append_nil]; exact bld_alloc hI'.out _, below_alloc HB'.out _, KeepT.below (below_alloc (Below.refl w.heap.size w) _)⟩
set_option maxHeartbeats 4000000 in
set_option maxRecDepth 100000 in
theorem put_other (a1 : Int) (a2 : ByteArray) (A3 : Option Addr) (n3 c3 : Nat) (d : Int) (bs : List UInt8) (b : Nat) (w0 w : World) (k0 : Int) (h0 : k0 ≠ 0) (h1 : k0 ≠ 1) (h2 : k0 ≠ 2)
    (HB : Below w0.heap.size w0 w) (hI : Lib.IsBuilder 176 5 w0.heap.size b (Lib.byteCells bs) w) :
    Calls Try.prog 94 #[.pointer (some ⟨b, 0, none⟩), .agg #[.int .i64 k0, .int .i64 a1, .string a2, .slice A3 n3 c3], .int .i64 d] w fun e w' =>
      e = .returned (.int .i64 2) ∧ Lib.IsBuilder 176 5 w0.heap.size b (Lib.byteCells (bs ++ [])) w' ∧ Below w0.heap.size w0 w' ∧ KeepT b w w' := by
  have c0 : (k0 == 0) = false := beq_eq_false_iff_ne.mpr h0
  have c1 : (k0 == 1) = false := beq_eq_false_iff_ne.mpr h1
  have c2 : (k0 == 2) = false := beq_eq_false_iff_ne.mpr h2
  clear h0 h1 h2
  have hI' : Hid (Lib.IsBuilder 176 5 w0.heap.size b (Lib.byteCells bs) w) := Lib.hid hI
  have HB' : Hid (Below w0.heap.size w0 w) := Lib.hid HB
  clear hI HB
  have hu := Try.underlying54
  go_enter Try.func94, Try.ntmps94
  go_wp2
  go_ret
  refine ⟨rfl, by rw [List.append_nil]; exact bld_alloc hI'.out _, below_alloc HB'.out _, KeepT.below (below_alloc (Below.refl w.heap.size w) _)⟩
theorem byteCells_append (x y : List UInt8) : Lib.byteCells (x ++ y) = Lib.byteCells x ++ Lib.byteCells y := by simp [Lib.byteCells]
theorem putL_cons {f : S54 → Int → Option (ByteArray × Int)} {l : List S54} {j : Nat} {d : Int} {t : ByteArray} {e : Int} (hj : j < l.length) (h : putL f (l.drop j) d = some (t, e)) :
    ∃ t1 e1, f (rd_T54 l j) d = some (t1, e1) ∧ ((e1 = 0 ∧ ∃ t2, putL f (l.drop (j + 1)) d = some (t2, e) ∧ t = t1 ++ t2) ∨ (e1 ≠ 0 ∧ t = t1 ∧ e = e1)) := by
  have er : rd_T54 l (j : Int) = l[j] := by unfold rd_T54; rw [show ((j : Int)).toNat = j by omega, List.getD_eq_getElem?_getD, List.getElem?_eq_getElem hj]; rfl
  rw [List.drop_eq_getElem_cons hj] at h
  simp only [putL] at h
  obtain ⟨⟨t1, e1⟩, h1, h2⟩ := Option.bind_eq_some_iff.mp h
  refine ⟨t1, e1, by rw [er]; exact h1, ?_⟩
  by_cases c : e1 = 0
  · simp only [c, if_true] at h2
    obtain ⟨⟨t2, e2⟩, h3, h4⟩ := Option.bind_eq_some_iff.mp h2
    simp only [Option.some.injEq, Prod.mk.injEq] at h4
    obtain ⟨rfl, rfl⟩ := h4
    exact .inl ⟨c, t2, h3, rfl⟩
  · simp only [c, if_false, Option.some.injEq, Prod.mk.injEq] at h2
    exact .inr ⟨c, h2.1.symm, h2.2.symm⟩
set_option maxHeartbeats 8000000 in
set_option maxRecDepth 100000 in
theorem put_list (f : S54 → Int → Option (ByteArray × Int))
    (ih : ∀ (x : S54) (A : Option Addr) (c : Nat) (e : Int) (bs : List UInt8) (b : Nat) (r1 : ByteArray) (r2 : Int) (w0 w : World), Kd.C k54 w0 A x.f3.length x.f3 → x.f3.length ≤ c → Below w0.heap.size w0 w → Lib.IsBuilder 176 5 w0.heap.size b (Lib.byteCells bs) w → bs.length + r1.size ≤ 140737488355328 → f x e = some (r1, r2) →
      Calls Try.prog 94 #[.pointer (some ⟨b, 0, none⟩), .agg #[.int .i64 x.f0, .int .i64 x.f1, .string x.f2, .slice A x.f3.length c], .int .i64 e] w fun e w' =>
        e = .returned (.int .i64 r2) ∧ Lib.IsBuilder 176 5 w0.heap.size b (Lib.byteCells (bs ++ r1.data.toList)) w' ∧ Below w0.heap.size w0 w' ∧ KeepT b w w')
    (a1 : Int) (a2 : ByteArray) (A3 : Option Addr) (c3 : Nat) (l3 : List S54) (d : Int) (bs : List UInt8) (b : Nat) (u : ByteArray) (r2 : Int) (w0 w : World) (hr : Kd.C k54 w0 A3 l3.length l3) (hc : l3.length ≤ c3) (h : l3.length ≤ 256) (hd : d < 8)
    (HB : Below w0.heap.size w0 w) (hI : Lib.IsBuilder 176 5 w0.heap.size b (Lib.byteCells bs) w) (hlen : bs.length + (headB l3.length u).size ≤ 140737488355328) (hf : putL f l3 (wrap64 (d + 1)) = some (u, r2)) :
    Calls Try.prog 94 #[.pointer (some ⟨b, 0, none⟩), .agg #[.int .i64 2, .int .i64 a1, .string a2, .slice A3 l3.length c3], .int .i64 d] w fun e w' =>
      e = .returned (.int .i64 r2) ∧ Lib.IsBuilder 176 5 w0.heap.size b (Lib.byteCells (bs ++ (headB l3.length u).data.toList)) w' ∧ Below w0.heap.size w0 w' ∧ KeepT b w w' := by
  have h1 : decide (256 < l3.length) = false := decide_eq_false (by omega)
  have h2 : decide ((256 : Int) < (l3.length : Int)) = false := decide_eq_false (by omega)
  have h3 : decide (8 ≤ d) = false := decide_eq_false (by omega)
  have hP : Hid (words_Put.f 20 2 (l3.length : Nat) = some (put 2 (l3.length : Nat))) := Lib.hid (put_some 20 (by omega) (by omega) (by omega))
  have zp : (put 2 (l3.length : Nat)).size = 2 := by rw [size_put]; rfl
  have t1 : 1 + (put 2 (l3.length : Nat)).size ≤ 9223372036854775807 := by omega
  have hz3 : (headB l3.length u).size = 3 + u.size := by unfold headB; rw [ByteArray.size_append, ByteArray.size_append, zp]; rfl
  have hL : Hid (bs.length + 3 + u.size ≤ 140737488355328) := Lib.hid (by rw [hz3] at hlen; omega)
  have hz2 : Hid (((⟨#[3]⟩ : ByteArray) ++ put 2 l3.length).size = 3) := Lib.hid (by rw [ByteArray.size_append, zp]; rfl)
  clear hlen hz3 zp hd
  have t1b := eq_true t1
  have t1c : (9223372036854775807 < 1 + (put 2 (l3.length : Nat)).size) = False := eq_false (Nat.not_lt.2 t1)
  clear t1
  have HR := Aside0.mk hr
  have HC := Aside0.mk hc
  have HF := Aside0.mk hf
  have IH := Aside0.mk ih
  clear hr hc hf ih
  have hI' : Hid (Lib.IsBuilder 176 5 w0.heap.size b (Lib.byteCells bs) w) := Lib.hid hI
  have HB' : Hid (Below w0.heap.size w0 w) := Lib.hid HB
  clear hI HB
  have hu := Try.underlying54
  have hl9 : l3.length ≤ 9223372036854775807 := by omega
  go_enter Try.func94, Try.ntmps94
  go_wp2_with (first
    | (go_at_call 103; (with_reducible refine (words_Put.calls 20 2 (l3.length : Nat) _ _ hP.out).mono ?_); rintro e w1 ⟨rfl, hb1⟩; have HB1 := Aside0.mk (below_step' (below_alloc HB'.out _) hb1); have HI1 := Aside0.mk (bld_below (bld_alloc hI'.out _) hb1); have HX1 := Aside0.mk (below_step' (below_alloc (Below.refl w.heap.size w) _) hb1); have BK1 := Aside0.mk (blk_below (g := w.heap.size) (o := .cells #[.int .i64 2, .int .i64 a1, .string a2, .slice A3 l3.length c3] 54 (0, 0)) (alloc_new w _) hb1); clear hb1)
    | (go_at_call 102; (with_reducible refine (writeString _ b _ ((⟨#[3]⟩ : ByteArray) ++ put 2 (l3.length : Nat)) _ HI1.out ?c1 HB1.out.size).mono ?_); (case c1 => rw [Lib.byteCells_length, hz2.out]; have := hL.out; omega); rintro e w3 ⟨rfl, hI3, hb3, hk3⟩; have HI3 := Aside0.mk hI3; have HB3 := Aside0.mk (HB1.out.trans hb3); have HK3 := Aside0.mk ((KeepT.below HX1.out).trans hk3); have BK3 := Aside0.mk (hk3 w.heap.size _ _ _ (by decide) (Nat.ne_of_gt (bld_lt hI'.out)) BK1.out); clear hI3 hb3 hk3; have hcz0 : w3.cell? ⟨w.heap.size, 0, none⟩ = some (.int .i64 2) := (blk_cell BK3.out 0).trans rfl; have hcz3 : w3.cell? ⟨w.heap.size, 3, none⟩ = some (.slice A3 l3.length c3) := (blk_cell BK3.out 3).trans rfl))
  have hH : Hid (Lib.IsBuilder 176 5 w0.heap.size b (Lib.byteCells (bs ++ ((⟨#[3]⟩ : ByteArray) ++ put 2 l3.length).data.toList)) w3) := by
    refine Lib.hid ?_
    have e := HI3.out
    rw [byteCells_strCells] at e
    rw [byteCells_append]
    exact Or.inr e
  clear HI3 hI' HI1 BK1 BK3 hcz0 hcz3 HB1 HX1 hP t1b t1c h1 h2 h3
  go_loopw [76] (fun i wr => ∃ (j : Nat) (acc : List UInt8) (t : ByteArray), i = .int .i64 j ∧ j ≤ l3.length ∧ Aside0 (putL f (l3.drop j) (wrap64 (d + 1)) = some (t, r2)) ∧ Aside0 (acc ++ t.data.toList = bs ++ (headB l3.length u).data.toList) ∧ Aside0 (Lib.IsBuilder 176 5 w0.heap.size b (Lib.byteCells acc) wr) ∧ Aside0 (Below w0.heap.size w0 wr) ∧ Aside0 (KeepT b w wr)) (fun i _ => l3.length - (intOf i).toNat)
  case atStart => exact ⟨0, bs ++ ((⟨#[3]⟩ : ByteArray) ++ put 2 l3.length).data.toList, u, rfl, Nat.zero_le _, HF, ⟨by rw [show headB l3.length u = ((⟨#[3]⟩ : ByteArray) ++ put 2 l3.length) ++ u from rfl, data_append ((⟨#[3]⟩ : ByteArray) ++ put 2 l3.length) u, List.append_assoc]⟩, ⟨hH.out⟩, HB3, HK3⟩
  case round =>
    obtain ⟨j, acc, t, rfl, hj, HT, HE, HIr, HBr, HKr⟩ := hrel
    clear HB3 HK3 hH HF
    by_cases hlt : j < l3.length
    · obtain ⟨t1, e1, hf1, hcase⟩ := putL_cons hlt HT.out
      obtain ⟨ad, A', c', e', hx0, hx1, hx2, hx3, hl', hi'⟩ := at_T54 HR.out (j : Int) (by omega) (by omega)
      cases e'
      rw [show ((j : Int)).toNat = j by omega] at hx0 hx1 hx2 hx3
      replace hx0 := (HBr.out.cell (World.block_lt_of_cell? w0 _ hx0)).trans hx0
      replace hx1 := (HBr.out.cell (World.block_lt_of_cell? w0 _ hx1)).trans hx1
      replace hx2 := (HBr.out.cell (World.block_lt_of_cell? w0 _ hx2)).trans hx2
      replace hx3 := (HBr.out.cell (World.block_lt_of_cell? w0 _ hx3)).trans hx3
      have HF1 := Aside0.mk hf1
      have HI' := Aside0.mk hi'
      have HL' := Aside0.mk hl'
      have hsz : Hid (t1.size ≤ t.size) := by
        refine Lib.hid ?_
        rcases hcase with ⟨_, t2, _, rfl⟩ | ⟨_, rfl, _⟩
        · rw [ByteArray.size_append]; omega
        · exact Nat.le_refl _
      have hlen : Hid (acc.length + t1.size ≤ 140737488355328) := by
        refine Lib.hid ?_
        have e := congrArg List.length HE.out
        have a1 : t.data.toList.length = t.size := Array.length_toList
        have a2 : (headB l3.length u).data.toList.length = (headB l3.length u).size := Array.length_toList
        have a3 : (headB l3.length u).size = 3 + u.size := by unfold headB; rw [ByteArray.size_append, hz2.out]
        rw [List.length_append, List.length_append, a1, a2, a3] at e
        have := hL.out
        have := hsz.out
        omega
      clear hf1 hi' hl'
      generalize rd_T54 l3 (j : Int) = X at *
      by_cases he : e1 = 0
      · subst he
        obtain ⟨t2, HT2, rfl⟩ : ∃ t2, Aside0 (putL f (l3.drop (j + 1)) (wrap64 (d + 1)) = some (t2, r2)) ∧ t = t1 ++ t2 := by
          rcases hcase with ⟨_, t2, h2, rfl⟩ | ⟨h, _⟩
          · exact ⟨t2, ⟨h2⟩, rfl⟩
          · exact absurd rfl h
        clear hcase
        go_wp2_with (go_at_call 94; (with_reducible refine (IH.out X A' c' (wrap64 (d + 1)) acc b t1 0 w0 _ HI'.out HL'.out ?c1 ?c2 hlen.out HF1.out).mono ?_); (case c1 => exact below_alloc HBr.out _); (case c2 => exact bld_alloc HIr.out _); rintro e w4 ⟨rfl, hI4, hb4, hk4⟩; have HI4 := Aside0.mk hI4; have HB4 := Aside0.mk hb4; have HK4 := Aside0.mk ((HKr.out.trans (KeepT.below (below_alloc (Below.refl wr.heap.size wr) _))).trans hk4); clear hI4 hb4 hk4)
        go_roundw
        case rel => exact ⟨j + 1, acc ++ t1.data.toList, t2, by go_num, by omega, HT2, ⟨by rw [← HE.out, data_append, List.append_assoc]⟩, HI4, HB4, HK4⟩
        case measure => simp [intOf]; omega
      · obtain ⟨rfl, rfl⟩ : t = t1 ∧ r2 = e1 := by
          rcases hcase with ⟨h, _⟩ | ⟨_, h1, h2⟩
          · exact absurd h he
          · exact ⟨h1, h2⟩
        have he1 : (r2 == 0) = false := beq_eq_false_iff_ne.mpr he
        have he2 : (r2 != 0) = true := bne_iff_ne.mpr he
        clear hcase he
        go_wp2_with (go_at_call 94; (with_reducible refine (IH.out X A' c' (wrap64 (d + 1)) acc b t r2 w0 _ HI'.out HL'.out ?c1 ?c2 hlen.out HF1.out).mono ?_); (case c1 => exact below_alloc HBr.out _); (case c2 => exact bld_alloc HIr.out _); rintro e w4 ⟨rfl, hI4, hb4, hk4⟩; have HI4 := Aside0.mk hI4; have HB4 := Aside0.mk hb4; have HK4 := Aside0.mk ((HKr.out.trans (KeepT.below (below_alloc (Below.refl wr.heap.size wr) _))).trans hk4); clear hI4 hb4 hk4)
        go_ret
        exact ⟨rfl, by rw [← HE.out]; exact HI4.out, HB4.out, HK4.out⟩
    · have hd' : l3.drop j = [] := List.drop_eq_nil_of_le (by omega)
      have e := HT.out
      rw [hd'] at e
      simp only [putL, Option.some.injEq, Prod.mk.injEq] at e
      obtain ⟨rfl, rfl⟩ := e
      obtain rfl : j = l3.length := by omega
      clear hlt HT hd'
      go_wp2
      go_ret
      exact ⟨rfl, by rw [← HE.out]; simpa using HIr.out, HBr.out, HKr.out⟩
/-- pack.put: what it puts behind what stands in the builder, and its error -/
theorem pack_put.calls (k : Nat) : ∀ (a0 a1 : Int) (a2 : ByteArray) (A3 : Option Addr) (c3 : Nat) (l3 : List S54) (d : Int) (bs : List UInt8) (b : Nat) (r1 : ByteArray) (r2 : Int) (w0 w : World), Kd.C k54 w0 A3 l3.length l3 → l3.length ≤ c3 →
    Below w0.heap.size w0 w → Lib.IsBuilder 176 5 w0.heap.size b (Lib.byteCells bs) w → bs.length + r1.size ≤ 140737488355328 → pack_put.f k a0 a1 a2 l3 d = some (r1, r2) →
    Calls Try.prog 94 #[.pointer (some ⟨b, 0, none⟩), .agg #[.int .i64 a0, .int .i64 a1, .string a2, .slice A3 l3.length c3], .int .i64 d] w fun e w' =>
      e = .returned (.int .i64 r2) ∧ Lib.IsBuilder 176 5 w0.heap.size b (Lib.byteCells (bs ++ r1.data.toList)) w' ∧ Below w0.heap.size w0 w' ∧ KeepT b w w' := by
  induction k with
  | zero => intro a0 a1 a2 A3 c3 l3 d bs b r1 r2 w0 w _ _ _ _ _ h; simp [pack_put.f] at h
  | succ k ih =>
    intro a0 a1 a2 A3 c3 l3 d bs b r1 r2 w0 w hr hc HB hI hlen h
    have z0 : (⟨#[]⟩ : ByteArray).data.toList = [] := rfl
    simp only [pack_put.f] at h
    by_cases h0 : a0 = 0
    · rw [if_pos h0] at h
      by_cases hn : -9223372036854775808 ≤ a1 ∧ a1 ≤ 9223372036854775807
      · rw [if_pos hn] at h
        simp only [Option.some.injEq, Prod.mk.injEq] at h
        obtain ⟨rfl, rfl⟩ := h
        subst h0
        exact put_int a1 a2 A3 l3.length c3 d bs b w0 w hn HB hI hlen
      · rw [if_neg hn] at h; cases h
    rw [if_neg h0] at h
    by_cases h1 : a0 = 1
    · rw [if_pos h1] at h
      subst h1
      by_cases h2 : (a2.size : Int) > 4096
      · rw [if_pos h2] at h
        simp only [Option.some.injEq, Prod.mk.injEq] at h
        obtain ⟨rfl, rfl⟩ := h
        rw [z0]
        exact put_text_long a1 a2 A3 l3.length c3 d bs b w0 w (by omega) HB hI
      · rw [if_neg h2] at h
        simp only [Option.some.injEq, Prod.mk.injEq] at h
        obtain ⟨rfl, rfl⟩ := h
        exact put_text a1 a2 A3 l3.length c3 d bs b w0 w (by omega) HB hI hlen
    rw [if_neg h1] at h
    by_cases h2 : a0 = 2
    · rw [if_pos h2] at h
      subst h2
      by_cases h3 : (l3.length : Int) > 256
      · rw [if_pos h3] at h
        simp only [Option.some.injEq, Prod.mk.injEq] at h
        obtain ⟨rfl, rfl⟩ := h
        rw [z0]
        exact put_list_long a1 a2 A3 l3.length c3 d bs b w0 w (by omega) HB hI
      rw [if_neg h3] at h
      by_cases h4 : d ≥ 8
      · rw [if_pos h4] at h
        simp only [Option.some.injEq, Prod.mk.injEq] at h
        obtain ⟨rfl, rfl⟩ := h
        rw [z0]
        exact put_list_deep a1 a2 A3 l3.length c3 d bs b w0 w (by omega) h4 HB hI
      rw [if_neg h4] at h
      obtain ⟨⟨u, r⟩, hu, hh⟩ := Option.bind_eq_some_iff.mp h
      simp only [Option.some.injEq, Prod.mk.injEq] at hh
      obtain ⟨rfl, rfl⟩ := hh
      exact put_list (fun x e => pack_put.f k x.f0 x.f1 x.f2 x.f3 e) (fun x A c e bs b r1 r2 w0 w g1 g2 g3 g4 g5 g6 => ih x.f0 x.f1 x.f2 A c x.f3 e bs b r1 r2 w0 w g1 g2 g3 g4 g5 g6) a1 a2 A3 c3 l3 d bs b u r w0 w hr hc (by omega) (by omega) HB hI hlen hu
    · rw [if_neg h2] at h
      simp only [Option.some.injEq, Prod.mk.injEq] at h
      obtain ⟨rfl, rfl⟩ := h
      rw [z0]
      exact put_other a1 a2 A3 l3.length c3 d bs b w0 w a0 h0 h1 h2 HB hI
end Go.Proofs.Ytjicfkmpgogppaa.Pk
namespace Go.Proofs.Ytjicfkmpgogppaa.Pk
set_option linter.unusedVariables false
set_option linter.unusedSimpArgs false
open Go Go.RowKit Go.Proofs.Ytjicfkmpgogppaa.Plain Go.Proofs.Ytjicfkmpgogppaa.WordsA Go.Proofs.Ytjicfkmpgogppaa.Bld Go.Proofs.Ytjicfkmpgogppaa.PA Go.Proofs.YtjicfkmpgogppaaW.PrintWords Go.Proofs.YtjicfkmpgogppaaW.PrintLast Go.Proofs.YtjicfkmpgogppaaW.PrintMore
set_option maxHeartbeats 4000000 in
set_option maxRecDepth 100000 in
/-- pack.Put: a value's bytes, or its error -/
theorem pack_Put.calls0 (k : Nat) (a0 a1 : Int) (a2 : ByteArray) (A3 : Option Addr) (c3 : Nat) (l3 : List S54) (r1 : ByteArray) (r2 : Int) (w : World) (hr : Kd.C k54 w A3 l3.length l3) (hc : l3.length ≤ c3)
    (hlen : r1.size ≤ 140737488355328) (h : pack_put.f k a0 a1 a2 l3 0 = some (r1, r2)) :
    Calls Try.prog 70 #[.agg #[.int .i64 a0, .int .i64 a1, .string a2, .slice A3 l3.length c3]] w fun e w' =>
      e = .returned (.tuple #[.string (if r2 = 0 then r1 else ⟨#[]⟩), .int .i64 r2]) ∧ Below w.heap.size w w' := by
  have HR := Aside0.mk hr
  have HC := Aside0.mk hc
  have HF := Aside0.mk h
  have HL : Hid (([] : List UInt8).length + r1.size ≤ 140737488355328) := Lib.hid (by simpa using hlen)
  clear hr hc h hlen
  have hu := Try.underlying54
  have hca := Aside0.mk (Kd.C_alloc HR.out (.cells #[.int .i64 a0, .int .i64 a1, .string a2, .slice A3 l3.length c3] 54))
  have hfb : Aside0 (Lib.IsBuilder 176 5 (w.alloc (.cells #[.int .i64 a0, .int .i64 a1, .string a2, .slice A3 l3.length c3] 54)).heap.size (w.heap.size + 1) [] ((w.alloc (.cells #[.int .i64 a0, .int .i64 a1, .string a2, .slice A3 l3.length c3] 54)).alloc (.cells #[.pointer none, .slice none 0 0] 176))) := by
    have key : ∀ n, n = (w.alloc (.cells #[.int .i64 a0, .int .i64 a1, .string a2, .slice A3 l3.length c3] 54)).heap.size → Lib.IsBuilder 176 5 (w.alloc (.cells #[.int .i64 a0, .int .i64 a1, .string a2, .slice A3 l3.length c3] 54)).heap.size n [] ((w.alloc (.cells #[.int .i64 a0, .int .i64 a1, .string a2, .slice A3 l3.length c3] 54)).alloc (.cells #[.pointer none, .slice none 0 0] 176)) := by
      rintro n rfl; exact Lib.fresh_isBuilder _ _ _
    exact ⟨key _ (by show _ = (w.heap.push _).size; exact Array.size_push _ |>.symm)⟩
  have hb0 := Aside0.mk (below_alloc (Below.refl w.heap.size w) (.cells #[.int .i64 a0, .int .i64 a1, .string a2, .slice A3 l3.length c3] 54))
  have hst : Aside0 (∀ (w1 w2 : World), Below (w.alloc (.cells #[.int .i64 a0, .int .i64 a1, .string a2, .slice A3 l3.length c3] 54)).heap.size (w.alloc (.cells #[.int .i64 a0, .int .i64 a1, .string a2, .slice A3 l3.length c3] 54)) w1 → Below (w.alloc (.cells #[.int .i64 a0, .int .i64 a1, .string a2, .slice A3 l3.length c3] 54)).heap.size w1 w2 → Below w.heap.size w w2) := ⟨fun w1 w2 h1 h2 => below_step' hb0.out (h1.trans h2)⟩
  by_cases h0 : r2 = 0
  · subst h0
    go_enter Try.func70, Try.ntmps70
    go_wp2_with (first
      | (go_at_call 94; go_loud (with_reducible refine (pack_put.calls k a0 a1 a2 A3 c3 l3 0 [] _ r1 0 (w.alloc (.cells #[.int .i64 a0, .int .i64 a1, .string a2, .slice A3 l3.length c3] 54)) _ hca.out HC.out ?c1 ?c2 HL.out HF.out).mono ?_); (case c1 => exact below_alloc (Below.refl _ _) _); (case c2 => exact hfb.out); rintro e w1 ⟨rfl, hI1, hb1, hk1⟩; have HI1 := Aside0.mk hI1; have HB1 := Aside0.mk hb1; clear hI1 hb1 hk1)
      | (go_at_call 95; (with_reducible refine (string_any _ _ _ _ HI1.out ?c1).mono ?_); (case c1 => exact HB1.out.size); rintro e w2 ⟨rfl, hb2⟩; have HB2 := Aside0.mk (hst.out _ _ HB1.out hb2); clear hb2))
    go_ret2
    exact ⟨by simp, HB2.out⟩
  · have e1 : (r2 == 0) = false := beq_eq_false_iff_ne.mpr h0
    have e2 : (r2 != 0) = true := bne_iff_ne.mpr h0
    have hi : (if r2 = 0 then r1 else (⟨#[]⟩ : ByteArray)) = ⟨#[]⟩ := if_neg h0
    rw [hi]
    clear hi h0
    go_enter Try.func70, Try.ntmps70
    go_wp2_with (go_at_call 94; (with_reducible refine (pack_put.calls k a0 a1 a2 A3 c3 l3 0 [] _ r1 r2 (w.alloc (.cells #[.int .i64 a0, .int .i64 a1, .string a2, .slice A3 l3.length c3] 54)) _ hca.out HC.out ?c1 ?c2 HL.out HF.out).mono ?_); (case c1 => exact below_alloc (Below.refl _ _) _); (case c2 => exact hfb.out); rintro e w1 ⟨rfl, hI1, hb1, hk1⟩; have HI1 := Aside0.mk hI1; have HB1 := Aside0.mk hb1; clear hI1 hb1 hk1)
    go_ret2
    exact ⟨rfl, hst.out _ _ HB1.out (Below.refl _ _)⟩
def pack_Put.f (k : Nat) (a0 a1 : Int) (a2 : ByteArray) (l3 : List S54) : Option (ByteArray × Int) :=
  (pack_put.f k a0 a1 a2 l3 0).bind fun t => if t.1.size ≤ 140737488355328 then some (if t.2 = 0 then t.1 else (⟨#[]⟩ : ByteArray), t.2) else none
theorem pack_Put.calls (k : Nat) (a0 a1 : Int) (a2 : ByteArray) (A3 : Option Addr) (c3 : Nat) (l3 : List S54) (r1 : ByteArray) (r2 : Int) (w : World) (hr : Kd.C k54 w A3 l3.length l3) (hc : l3.length ≤ c3)
    (h : pack_Put.f k a0 a1 a2 l3 = some (r1, r2)) :
    Calls Try.prog 70 #[.agg #[.int .i64 a0, .int .i64 a1, .string a2, .slice A3 l3.length c3]] w fun e w' =>
      e = .returned (.tuple #[.string r1, .int .i64 r2]) ∧ Below w.heap.size w w' := by
  obtain ⟨⟨t1, t2⟩, h1, h2⟩ := Option.bind_eq_some_iff.mp h
  dsimp only at h2
  by_cases c : t1.size ≤ 140737488355328
  · rw [if_pos c] at h2
    simp only [Option.some.injEq, Prod.mk.injEq] at h2
    obtain ⟨rfl, rfl⟩ := h2
    exact pack_Put.calls0 k a0 a1 a2 A3 c3 l3 t1 t2 w hr hc c h1
  · rw [if_neg c] at h2; cases h2
theorem putL_mono {f g : S54 → Int → Option (ByteArray × Int)} (h : ∀ x e, LeO (f x e) (g x e)) : ∀ l d, LeO (putL f l d) (putL g l d)
  | [], _ => LeO.refl _
  | x :: r, d => by
    unfold putL
    exact LeO.bind (h x d) (fun t => LeO.ite (LeO.bind (putL_mono h r d) (fun _ => LeO.refl _)) (LeO.refl _))
theorem pack_put.mono : ∀ k a0 a1 a2 l3 d, LeO (pack_put.f k a0 a1 a2 l3 d) (pack_put.f (k + 1) a0 a1 a2 l3 d)
  | 0, _, _, _, _, _ => LeO.none _
  | k + 1, a0, a1, a2, l3, d => by
    unfold pack_put.f
    refine LeO.ite (LeO.refl _) (LeO.ite (LeO.refl _) (LeO.ite (LeO.ite (LeO.refl _) (LeO.ite (LeO.refl _) (LeO.bind (putL_mono (fun x e => pack_put.mono k _ _ _ _ _) _ _) (fun _ => LeO.refl _)))) (LeO.refl _)))
theorem pack_Put.mono (k : Nat) (a0 a1 : Int) (a2 : ByteArray) (l3 : List S54) : LeO (pack_Put.f k a0 a1 a2 l3) (pack_Put.f (k + 1) a0 a1 a2 l3) := LeO.bind (pack_put.mono k a0 a1 a2 l3 0) (fun _ => LeO.refl _)
end Go.Proofs.Ytjicfkmpgogppaa.Pk
-- printed by a program of this session out of the translation; see NOTES.md
namespace Go.Proofs.Ytjicfkmpgogppaa.PA
open Go.RowKit Go.Proofs.YtjicfkmpgogppaaW.PrintWords Go.Proofs.YtjicfkmpgogppaaW.PrintLast Go.Proofs.YtjicfkmpgogppaaW.PrintMore
attribute [local go_sem] max2_int min2_int max_two min_two max_three min_three max_four min_four   -- for this text's walks alone
set_option linter.unusedVariables false
set_option linter.unusedSimpArgs false

/-! ### pack_Put: function 70 -/
def pack_Put.f (k : Nat) (a0_0 : Int) (a0_1 : Int) (a0_2 : ByteArray) (l0_3 : List (S54)) : Option (ByteArray × Int) := Pk.pack_Put.f k a0_0 a0_1 a0_2 l0_3
theorem pack_Put.mono : ∀ a0 a1 a2 a3 k, LeO (pack_Put.f k a0 a1 a2 a3) (pack_Put.f (k + 1) a0 a1 a2 a3) := fun a0 a1 a2 a3 k => Pk.pack_Put.mono k a0 a1 a2 a3
theorem pack_Put.calls (k : Nat) (a0_0 : Int) (a0_1 : Int) (a0_2 : ByteArray) (A0_3 : Option Addr) (c0_3 : Nat) (l0_3 : List (S54)) (r1 : ByteArray) (r2 : Int) (w : World) (hr0_3 : Kd.C k54 w A0_3 l0_3.length l0_3) (hc0_3 : l0_3.length ≤ c0_3) (h : pack_Put.f k a0_0 a0_1 a0_2 l0_3 = some (r1, r2)) :
  Calls Try.prog 70 #[.agg #[.int .i64 a0_0, .int .i64 a0_1, .string a0_2, .slice A0_3 l0_3.length c0_3]] w fun e w' => e = .returned (.tuple #[.string r1, .int .i64 r2]) ∧ Below w.heap.size w w' := Pk.pack_Put.calls k a0_0 a0_1 a0_2 A0_3 c0_3 l0_3 r1 r2 w hr0_3 hc0_3 h

end Go.Proofs.Ytjicfkmpgogppaa.PA
