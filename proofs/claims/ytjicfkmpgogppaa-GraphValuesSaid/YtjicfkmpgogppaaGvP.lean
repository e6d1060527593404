/-
  Workflows as values, and values as workflows: plain, and what the printed functions answer.
-/
import Derived.Test.YtjicfkmpgogppaaGrS
import Derived.Test.YtjicfkmpgogppaaValsA
import Derived.Test.YtjicfkmpgogppaaPGx23
import Derived.Test.YtjicfkmpgogppaaPGx24
import Derived.Test.YtjicfkmpgogppaaPGx25
import Derived.Test.YtjicfkmpgogppaaPGx29
import Derived.Test.YtjicfkmpgogppaaPGx30
namespace Go.Proofs.Ytjicfkmpgogppaa.Gv
set_option linter.unusedVariables false
set_option linter.unusedSimpArgs false
open Go Go.RowKit Go.Proofs.Ytjicfkmpgogppaa.Plain Go.Proofs.Ytjicfkmpgogppaa.Gr Go.Proofs.Ytjicfkmpgogppaa.Vs Go.Proofs.Ytjicfkmpgogppaa.PG Go.Proofs.YtjicfkmpgogppaaW.PrintWords Go.Proofs.YtjicfkmpgogppaaW.PrintLast Go.Proofs.YtjicfkmpgogppaaW.PrintMore
abbrev E0 : ByteArray := ⟨#[]⟩
def strV (s : ByteArray) : V := ⟨1, 0, s, []⟩
def numV (n : Int) : V := ⟨0, n, E0, []⟩
def allV (l : List V) : V := ⟨2, 0, E0, l⟩
/-- a node as a value -/
def nodeV (x : A_) : V := allV [strV x.f0, allV (x.f1.map strV), numV x.f2, numV x.f3, numV x.f4, strV x.f5]
/-- a workflow as a value -/
def flowV (nm : ByteArray) (l : List A_) : V := allV [strV nm, allV (l.map nodeV)]
abbrev at_ (v : V) (i : Nat) : V := v.f3.getD i z54
theorem all_some (l : List V) (h : l.length ≤ 1000000) : pack_All.f l = some (2, 0, E0, l) := by
  unfold pack_All.f pack_Value_77.f
  simp only [Option.bind_some, List.length_nil, List.nil_append]
  rw [if_pos (by omega)]
  rfl
theorem value_l1 (x3 : List V) (h3 : x3.length ≤ 1000000) (x10 : List A_) (x11 i : Int) (hi : 0 ≤ i) (hi2 : i ≤ 1000000) (nm : ByteArray) (fl : List A_) (x : A_) (hd : x.f1.length ≤ 1000000) : ∀ (d j : Nat), j + d = x.f1.length → ∀ K, graph_Value.l1 (K + d + 1) x3 ((x.f1.take j).map strV) x10 x11 i x.f1 x.f1.length j nm fl x.f0 x.f1 x.f2 x.f3 x.f4 x.f5 = graph_Value.l0 K (x3 ++ [nodeV x]) x10 x11 (i + 1) nm fl
  | 0, j, h, K => by
    have hl : ((x.f1.take j).map strV).length ≤ 1000000 := by rw [List.length_map, List.length_take]; omega
    rw [graph_Value.l1, if_neg (by omega)]
    simp only [pack_Str.f, pack_Num.f, Option.bind_some]
    rw [all_some _ hl, Option.bind_some, all_some _ (by simp), Option.bind_some, if_pos (by omega), w64 (by omega) (by omega), List.take_of_length_le (by omega)]
    rfl
  | d + 1, j, h, K => by
    have e1' : wrap64 ((j : Int) + 1) = ((j + 1 : Nat) : Int) := by rw [w64 (by omega) (by omega)]; rfl
    have hj : j < x.f1.length := by omega
    have hd' : rdOf ByteArray.empty x.f1 (j : Int) = x.f1[j] := by
      unfold rdOf
      rw [Int.toNat_natCast, List.getD_eq_getElem?_getD, List.getElem?_eq_getElem hj]; rfl
    have hlen : ((x.f1.take j).map strV).length = j := by rw [List.length_map, List.length_take]; omega
    have happ : (x.f1.take j).map strV ++ [strV x.f1[j]] = (x.f1.take (j + 1)).map strV := by
      rw [List.take_succ_eq_append_getElem hj, List.map_append]; rfl
    rw [show K + (d + 1) + 1 = (K + d + 1) + 1 by omega, graph_Value.l1, if_pos (by omega), if_pos (by omega), if_pos (by omega), hd']
    simp only [pack_Str.f, Option.bind_some]
    rw [if_pos (by omega), e1']
    have ih := value_l1 x3 h3 x10 x11 i hi hi2 nm fl x hd d (j + 1) (by omega) K
    rw [← happ] at ih
    exact ih
theorem value_l0 (nm : ByteArray) (l : List A_) (hl : l.length ≤ 1000000) (hd : ∀ x ∈ l, x.f1.length ≤ 1000000) : ∀ (d i : Nat), i + d = l.length → ∃ K0, ∀ K, K0 ≤ K → graph_Value.l0 K ((l.take i).map nodeV) l l.length i nm l = some (2, 0, E0, [strV nm, allV (l.map nodeV)])
  | 0, i, h => by
    refine ⟨1, fun K hK => ?_⟩
    obtain ⟨K, rfl⟩ : ∃ m, K = m + 1 := ⟨K - 1, by omega⟩
    rw [graph_Value.l0, if_neg (by omega), List.take_of_length_le (by omega)]
    simp only [pack_Str.f, Option.bind_some]
    rw [all_some _ (by rw [List.length_map]; omega), Option.bind_some, all_some _ (by simp), Option.bind_some]
    rfl
  | d + 1, i, h => by
    obtain ⟨K0, h0⟩ := value_l0 nm l hl hd d (i + 1) (by omega)
    have hi : i < l.length := by omega
    have hr : rd_T48 l (i : Int) = l[i] := by
      unfold rd_T48
      rw [Int.toNat_natCast, List.getD_eq_getElem?_getD, List.getElem?_eq_getElem hi]; rfl
    have hdi := hd _ (List.getElem_mem hi)
    have hlen : ((l.take i).map nodeV).length = i := by rw [List.length_map, List.length_take]; omega
    have happ : (l.take i).map nodeV ++ [nodeV l[i]] = (l.take (i + 1)).map nodeV := by
      rw [List.take_succ_eq_append_getElem hi, List.map_append]; rfl
    refine ⟨K0 + l[i].f1.length + 2, fun K hK => ?_⟩
    obtain ⟨K, rfl⟩ : ∃ m, K = m + l[i].f1.length + 1 + 1 := ⟨K - l[i].f1.length - 2, by omega⟩
    have h1 := value_l1 ((l.take i).map nodeV) (by omega) l l.length i (by omega) (by omega) nm l l[i] hdi l[i].f1.length 0 (by omega) K
    rw [happ] at h1
    rw [graph_Value.l0, if_pos (by omega), if_pos (by omega), if_pos (by omega), hr]
    exact h1.trans (h0 K (by omega))
theorem value_some (nm : ByteArray) (l : List A_) (hl : l.length ≤ 1000000) (hd : ∀ x ∈ l, x.f1.length ≤ 1000000) : ∃ K0, ∀ K, K0 ≤ K → graph_Value.f K nm l = some (2, 0, E0, [strV nm, allV (l.map nodeV)]) := value_l0 nm l hl hd l.length 0 (by omega)
/-! what a value is as a workflow -/
def inr (n : Int) : Bool := decide (-2147483648 ≤ n ∧ n ≤ 2147483647)
theorem small_some (n : Int) : graph_small.f n = some (inr n) := by
  unfold graph_small.f inr
  by_cases h : n ≥ -2147483648
  · rw [if_pos h]; congr 1; rw [decide_eq_decide]; omega
  · rw [if_neg h, decide_eq_false (by omega)]
def shapedB (k : Int) (l : List V) (ks : List Int) : Bool := decide (k = 2 ∧ l.map (·.f0) = ks)
theorem rdV_nat (l : List V) (i : Nat) (h : i < l.length) : rd_T54 l (i : Int) = l[i] := by
  unfold rd_T54
  rw [Int.toNat_natCast, List.getD_eq_getElem?_getD, List.getElem?_eq_getElem h]; rfl
theorem shaped_l0 (a b : Int) (c : ByteArray) (l : List V) (ks : List Int) (hk : ks.length ≤ 1000) (he : l.length = ks.length) : ∀ (d i : Nat), i + d = ks.length → ∀ K, graph_shaped.l0 (K + d + 1) ks ks.length i a b c l = some (decide ((l.drop i).map (·.f0) = ks.drop i))
  | 0, i, h, K => by
    rw [graph_shaped.l0, if_neg (by omega), List.drop_of_length_le (by omega), List.drop_of_length_le (by omega)]
    rfl
  | d + 1, i, h, K => by
    have e1' : wrap64 ((i : Int) + 1) = ((i + 1 : Nat) : Int) := by rw [w64 (by omega) (by omega)]; rfl
    have hi : i < ks.length := by omega
    have hi2 : i < l.length := by omega
    have hr : rd ks (i : Int) = ks[i] := by
      unfold rd
      rw [Int.toNat_natCast, List.getD_eq_getElem?_getD, List.getElem?_eq_getElem hi]; rfl
    rw [show K + (d + 1) + 1 = (K + d + 1) + 1 by omega, graph_shaped.l0, if_pos (by omega), if_pos (by omega), if_pos (by omega), if_pos (by omega), rdV_nat l i hi2, hr, e1', List.drop_eq_getElem_cons hi, List.drop_eq_getElem_cons hi2, List.map_cons]
    by_cases c0 : l[i].f0 = ks[i]
    · rw [if_pos c0, shaped_l0 a b c l ks hk he d (i + 1) (by omega) K]
      congr 1
      rw [decide_eq_decide]
      constructor
      · intro h; rw [h, c0]
      · intro h; injection h
    · rw [if_neg c0, decide_eq_false]
      intro h; injection h with h _; exact c0 h
theorem shaped_some (a b : Int) (c : ByteArray) (l : List V) (ks : List Int) (hk : ks.length ≤ 1000) (K : Nat) : graph_shaped.f (K + ks.length + 2) a b c l ks = some (shapedB a l ks) := by
  unfold graph_shaped.f shapedB
  by_cases ha : a = 2
  · rw [if_pos ha]
    by_cases he : l.length = ks.length
    · have e : (((l.length : Int) != (ks.length : Int))) = false := by rw [bne_eq_false_iff_eq]; omega
      rw [e, show K + ks.length + 2 = (K + ks.length + 1) + 1 by omega, graph_shaped.j0, if_neg (by decide)]
      have h := shaped_l0 a b c l ks hk he ks.length 0 (by omega) K
      rw [List.drop_zero, List.drop_zero] at h
      refine h.trans ?_
      congr 1
      rw [decide_eq_decide]
      exact ⟨fun h => ⟨ha, h⟩, fun h => h.2⟩
    · have e : (((l.length : Int) != (ks.length : Int))) = true := by rw [bne_iff_ne]; omega
      rw [e, show K + ks.length + 2 = (K + ks.length + 1) + 1 by omega, graph_shaped.j0, if_pos rfl, decide_eq_false]
      rintro ⟨_, h⟩
      have := congrArg List.length h
      rw [List.length_map] at this
      exact he this
  · rw [if_neg ha, show K + ks.length + 2 = (K + ks.length + 1) + 1 by omega, graph_shaped.j0, if_pos rfl, decide_eq_false]
    rintro ⟨h, _⟩; exact ha h
def textsB (l : List V) : Bool := l.all fun d => d.f0 == 1
/-- the node that a value is -/
def nodeR (v : V) : Option A_ := if shapedB v.f0 v.f3 [1, 2, 0, 0, 0, 1] = true then (if inr (at_ v 2).f1 = true ∧ inr (at_ v 4).f1 = true then (if textsB (at_ v 1).f3 = true then some ⟨(at_ v 0).f2, (at_ v 1).f3.map (·.f2), (at_ v 2).f1, (at_ v 3).f1, (at_ v 4).f1, (at_ v 5).f2⟩ else none) else none) else none
def nodeT (o : Option A_) : ByteArray × List ByteArray × Int × Int × Int × ByteArray × Bool := match o with
  | some x => (x.f0, x.f1, x.f2, x.f3, x.f4, x.f5, true)
  | none => (E0, [], 0, 0, 0, E0, false)
theorem node_l0 (l : List V) (hl : l.length ≤ 1000000) (s0 s5 : ByteArray) (n2 n3 n4 : Int) : ∀ (d i : Nat), i + d = l.length → ∀ K, graph_node.l0 (K + d + 1) l l.length i s0 ((l.take i).map (·.f2)) n2 n3 n4 s5 = some (if textsB (l.drop i) = true then (s0, l.map (·.f2), n2, n3, n4, s5, true) else (E0, [], 0, 0, 0, E0, false))
  | 0, i, h, K => by
    rw [graph_node.l0, if_neg (by omega), List.drop_of_length_le (by omega), List.take_of_length_le (by omega), if_pos (by rfl)]
  | d + 1, i, h, K => by
    have e1' : wrap64 ((i : Int) + 1) = ((i + 1 : Nat) : Int) := by rw [w64 (by omega) (by omega)]; rfl
    have hi : i < l.length := by omega
    have hlen : ((l.take i).map (·.f2)).length = i := by rw [List.length_map, List.length_take]; omega
    have happ : (l.take i).map (·.f2) ++ [l[i].f2] = (l.take (i + 1)).map (·.f2) := by
      rw [List.take_succ_eq_append_getElem hi, List.map_append]; rfl
    rw [show K + (d + 1) + 1 = (K + d + 1) + 1 by omega, graph_node.l0, if_pos (by omega), if_pos (by omega), if_pos (by omega), rdV_nat l i hi, List.drop_eq_getElem_cons hi]
    have et : textsB (l[i] :: l.drop (i + 1)) = (l[i].f0 == 1 && textsB (l.drop (i + 1))) := rfl
    rw [et]
    by_cases c0 : l[i].f0 = 1
    · rw [if_pos c0, if_pos (by omega), happ, e1', node_l0 l hl s0 s5 n2 n3 n4 d (i + 1) (by omega) K, beq_iff_eq.2 c0, Bool.true_and]
    · rw [if_neg c0, beq_eq_false_iff_ne.2 c0, Bool.false_and, if_neg (by decide)]
theorem rd_at (l : List V) (i : Nat) : rd_T54 l (i : Int) = l.getD i z54 := by
  unfold rd_T54
  rw [Int.toNat_natCast]
theorem node_some (v : V) (hv : ∀ y ∈ v.f3, y.f3.length ≤ 1000000) : ∃ K0, ∀ K, K0 ≤ K → graph_node.f K v.f0 v.f1 v.f2 v.f3 = some (nodeT (nodeR v)) := by
  obtain ⟨a, b, c, l⟩ := v
  refine ⟨(at_ ⟨a, b, c, l⟩ 1).f3.length + 20, fun K hK => ?_⟩
  obtain ⟨K, rfl⟩ : ∃ m, K = m + (at_ ⟨a, b, c, l⟩ 1).f3.length + 20 := ⟨K - (at_ ⟨a, b, c, l⟩ 1).f3.length - 20, by omega⟩
  have hs := shaped_some a b c l [1, 2, 0, 0, 0, 1] (by decide) (K + (at_ ⟨a, b, c, l⟩ 1).f3.length + 12)
  simp only [List.length_cons, List.length_nil] at hs
  have r0 := rd_at l 0
  have r1 := rd_at l 1
  have r2 := rd_at l 2
  have r3 := rd_at l 3
  have r4 := rd_at l 4
  have r5 := rd_at l 5
  unfold graph_node.f nodeR
  show ((graph_shaped.f (K + (at_ ⟨a, b, c, l⟩ 1).f3.length + 20) a b c l [1, 2, 0, 0, 0, 1]).bind _) = _
  rw [show K + (at_ ⟨a, b, c, l⟩ 1).f3.length + 20 = K + (at_ ⟨a, b, c, l⟩ 1).f3.length + 12 + (0 + 1 + 1 + 1 + 1 + 1 + 1) + 2 by omega, hs, Option.bind_some]
  show (if shapedB a l [1, 2, 0, 0, 0, 1] = true then _ else _) = some (nodeT (if shapedB a l [1, 2, 0, 0, 0, 1] = true then _ else _))
  by_cases h : shapedB a l [1, 2, 0, 0, 0, 1] = true
  · rw [if_pos h, if_pos h]
    have hl6 : l.length = 6 := by
      have := congrArg List.length (of_decide_eq_true h).2
      simpa using this
    have hl7 : (⟨a, b, c, l⟩ : V).f3.length = 6 := hl6
    have h1 : (at_ ⟨a, b, c, l⟩ 1).f3.length ≤ 1000000 := by
      refine hv _ ?_
      show l.getD 1 _ ∈ l
      rw [List.getD_eq_getElem?_getD, List.getElem?_eq_getElem (by omega)]
      exact List.getElem_mem _
    have e2 : rd_T54 l 2 = at_ ⟨a, b, c, l⟩ 2 := r2
    have e4 : rd_T54 l 4 = at_ ⟨a, b, c, l⟩ 4 := r4
    rw [if_pos (by omega), small_some, Option.bind_some, e2]
    cases c2 : inr (at_ ⟨a, b, c, l⟩ 2).f1 with
    | false =>
      rw [if_neg (by decide), if_neg (by rintro ⟨h, _⟩; exact absurd h (by decide)), show K + (at_ ⟨a, b, c, l⟩ 1).f3.length + 12 + (0 + 1 + 1 + 1 + 1 + 1 + 1) + 2 = (K + (at_ ⟨a, b, c, l⟩ 1).f3.length + 19) + 1 by omega, graph_node.j0, if_pos (by decide)]
      rfl
    | true =>
      rw [if_pos rfl, if_pos (by omega), small_some, Option.bind_some, e4]
      cases c4 : inr (at_ ⟨a, b, c, l⟩ 4).f1 with
      | false =>
        rw [if_neg (by rintro ⟨_, h⟩; exact absurd h (by decide)), show K + (at_ ⟨a, b, c, l⟩ 1).f3.length + 12 + (0 + 1 + 1 + 1 + 1 + 1 + 1) + 2 = (K + (at_ ⟨a, b, c, l⟩ 1).f3.length + 19) + 1 by omega, graph_node.j0, if_pos (by decide)]
        rfl
      | true =>
        have e0 : rd_T54 l 0 = at_ ⟨a, b, c, l⟩ 0 := r0
        have e1 : rd_T54 l 1 = at_ ⟨a, b, c, l⟩ 1 := r1
        have e3 : rd_T54 l 3 = at_ ⟨a, b, c, l⟩ 3 := r3
        have e5 : rd_T54 l 5 = at_ ⟨a, b, c, l⟩ 5 := r5
        rw [if_pos ⟨rfl, rfl⟩, show K + (at_ ⟨a, b, c, l⟩ 1).f3.length + 12 + (0 + 1 + 1 + 1 + 1 + 1 + 1) + 2 = (K + (at_ ⟨a, b, c, l⟩ 1).f3.length + 19) + 1 by omega, graph_node.j0, if_neg (by decide), if_pos (by omega), if_pos (by omega), if_pos (by omega), if_pos (by omega), if_pos (by omega), if_pos (by omega), e0, e1, e2, e3, e4, e5]
        have hn := node_l0 (at_ ⟨a, b, c, l⟩ 1).f3 h1 (at_ ⟨a, b, c, l⟩ 0).f2 (at_ ⟨a, b, c, l⟩ 5).f2 (at_ ⟨a, b, c, l⟩ 2).f1 (at_ ⟨a, b, c, l⟩ 3).f1 (at_ ⟨a, b, c, l⟩ 4).f1 (at_ ⟨a, b, c, l⟩ 1).f3.length 0 (by omega) (K + 18)
        rw [show K + (at_ ⟨a, b, c, l⟩ 1).f3.length + 19 = K + 18 + (at_ ⟨a, b, c, l⟩ 1).f3.length + 1 by omega]
        refine hn.trans ?_
        rw [List.drop_zero]
        by_cases ct : textsB (at_ ⟨a, b, c, l⟩ 1).f3 = true
        · rw [if_pos ct, if_pos ct]; rfl
        · rw [if_neg ct, if_neg ct]; rfl
  · rw [if_neg h, if_neg h, show K + (at_ ⟨a, b, c, l⟩ 1).f3.length + 12 + (0 + 1 + 1 + 1 + 1 + 1 + 1) + 2 = (K + (at_ ⟨a, b, c, l⟩ 1).f3.length + 19) + 1 by omega, graph_node.j0, if_pos rfl]
    rfl
/-- all of them, if each is a node -/
def nodesR : List V → Option (List A_)
  | [] => some []
  | v :: l => match nodeR v with
    | none => none
    | some x => match nodesR l with
      | none => none
      | some r => some (x :: r)
/-- the workflow that a value is, or the error's number -/
def flowR (v : V) : ByteArray × List A_ × Int := if shapedB v.f0 v.f3 [1, 2] = true then (match nodesR (at_ v 1).f3 with
    | some r => ((at_ v 0).f2, r, 0)
    | none => (E0, [], 4)) else (E0, [], 4)
theorem read_l0 (nm : ByteArray) (l : List V) (hl : l.length ≤ 1000000) (hv : ∀ x ∈ l, ∀ y ∈ x.f3, y.f3.length ≤ 1000000) : ∀ (d i : Nat), i + d = l.length → ∀ acc : List A_, acc.length = i → ∃ K0, ∀ K, K0 ≤ K → graph_Read.l0 K l l.length i nm acc = some (match nodesR (l.drop i) with
    | some r => (nm, acc ++ r, 0)
    | none => (E0, [], 4))
  | 0, i, h, acc, ha => by
    refine ⟨1, fun K hK => ?_⟩
    obtain ⟨K, rfl⟩ : ∃ m, K = m + 1 := ⟨K - 1, by omega⟩
    rw [graph_Read.l0, if_neg (by omega), List.drop_of_length_le (by omega)]
    simp [nodesR]
  | d + 1, i, h, acc, ha => by
    have e1' : wrap64 ((i : Int) + 1) = ((i + 1 : Nat) : Int) := by rw [w64 (by omega) (by omega)]; rfl
    have hi : i < l.length := by omega
    obtain ⟨K1, h1⟩ := node_some l[i] (hv _ (List.getElem_mem hi))
    cases c : nodeR l[i] with
    | none =>
      refine ⟨K1 + 1, fun K hK => ?_⟩
      obtain ⟨K, rfl⟩ : ∃ m, K = m + 1 := ⟨K - 1, by omega⟩
      have h1' := h1 K (by omega)
      rw [c] at h1'
      rw [graph_Read.l0, if_pos (by omega), if_pos (by omega), if_pos (by omega), rdV_nat l i hi, h1', Option.bind_some]
      rw [List.drop_eq_getElem_cons hi, nodesR, c]
      rfl
    | some x =>
      obtain ⟨K2, h2⟩ := read_l0 nm l hl hv d (i + 1) (by omega) (acc ++ [x]) (by rw [List.length_append, ha]; rfl)
      refine ⟨K1 + K2 + 1, fun K hK => ?_⟩
      obtain ⟨K, rfl⟩ : ∃ m, K = m + 1 := ⟨K - 1, by omega⟩
      have h1' := h1 K (by omega)
      rw [c] at h1'
      rw [graph_Read.l0, if_pos (by omega), if_pos (by omega), if_pos (by omega), rdV_nat l i hi, h1', Option.bind_some, e1']
      rw [if_pos (by rfl), if_pos (by omega)]
      refine (h2 K (by omega)).trans ?_
      rw [List.drop_eq_getElem_cons hi, nodesR, c]
      cases nodesR (l.drop (i + 1)) with
      | none => rfl
      | some r => simp
theorem read_some (v : V) (hv : v.f3.length ≤ 1000000 ∧ ∀ x ∈ v.f3, x.f3.length ≤ 1000000 ∧ ∀ y ∈ x.f3, ∀ z ∈ y.f3, z.f3.length ≤ 1000000) : ∃ K0, ∀ K, K0 ≤ K → graph_Read.f K v.f0 v.f1 v.f2 v.f3 = some (flowR v) := by
  obtain ⟨a, b, c, l⟩ := v
  obtain ⟨hl0, hl⟩ := hv
  by_cases h : shapedB a l [1, 2] = true
  · have hl2 : l.length = 2 := by
      have := congrArg List.length (of_decide_eq_true h).2
      simpa using this
    have hl3 : (⟨a, b, c, l⟩ : V).f3.length = 2 := hl2
    have hm : at_ ⟨a, b, c, l⟩ 1 ∈ l := by
      show l.getD 1 _ ∈ l
      rw [List.getD_eq_getElem?_getD, List.getElem?_eq_getElem (by omega)]
      exact List.getElem_mem _
    obtain ⟨h1, h2⟩ := hl _ hm
    obtain ⟨K0, h0⟩ := read_l0 (at_ ⟨a, b, c, l⟩ 0).f2 (at_ ⟨a, b, c, l⟩ 1).f3 h1 h2 (at_ ⟨a, b, c, l⟩ 1).f3.length 0 (by omega) [] rfl
    refine ⟨K0 + 4, fun K hK => ?_⟩
    have hs := shaped_some a b c l [1, 2] (by decide) (K - 4)
    rw [show K - 4 + ([1, 2] : List Int).length + 2 = K by show K - 4 + 2 + 2 = K; omega] at hs
    have e0 : rd_T54 l 0 = at_ ⟨a, b, c, l⟩ 0 := rd_at l 0
    have e1 : rd_T54 l 1 = at_ ⟨a, b, c, l⟩ 1 := rd_at l 1
    unfold graph_Read.f flowR
    rw [hs, Option.bind_some, if_pos h, if_pos h, if_pos (by omega), if_pos (by omega), e0, e1]
    refine (h0 K (by omega)).trans ?_
    rw [List.drop_zero]
    cases nodesR (at_ ⟨a, b, c, l⟩ 1).f3 with
    | none => rfl
    | some r => rfl
  · refine ⟨4, fun K hK => ?_⟩
    have hs := shaped_some a b c l [1, 2] (by decide) (K - 4)
    rw [show K - 4 + ([1, 2] : List Int).length + 2 = K by show K - 4 + 2 + 2 = K; omega] at hs
    unfold graph_Read.f flowR
    rw [hs, Option.bind_some, if_neg h, if_neg h]
theorem small_lim {v : V} (h : Small v) : v.f3.length ≤ 1000000 ∧ ∀ x ∈ v.f3, x.f3.length ≤ 1000000 ∧ ∀ y ∈ x.f3, ∀ z ∈ y.f3, z.f3.length ≤ 1000000 := by
  rw [Small_eq] at h
  refine ⟨by omega, fun x hx => ?_⟩
  have h1 := h.2 x hx
  rw [Small_eq] at h1
  refine ⟨by omega, fun y hy z hz => ?_⟩
  have h2 := h1.2 y hy
  rw [Small_eq] at h2
  have h3 := h2.2 z hz
  rw [Small_eq] at h3
  omega
/-! there and back -/
end Go.Proofs.Ytjicfkmpgogppaa.Gv
