/-
  Workflows as values, and values as workflows: what the printed functions answer.
  What was read as a workflow is small.
-/
import Derived.Test.YtjicfkmpgogppaaH1
import Derived.Test.YtjicfkmpgogppaaPAx19
import Derived.Test.YtjicfkmpgogppaaH0
import Derived.Test.YtjicfkmpgogppaaH2
import Derived.Test.YtjicfkmpgogppaaPAx27
namespace Go.Proofs.Ytjicfkmpgogppaa.Gv
set_option linter.unusedVariables false
set_option linter.unusedSimpArgs false
open Go Go.RowKit Go.Proofs.Ytjicfkmpgogppaa.Plain Go.Proofs.Ytjicfkmpgogppaa.Vs Go.Proofs.Ytjicfkmpgogppaa.PA Go.Proofs.YtjicfkmpgogppaaW.PrintWords Go.Proofs.YtjicfkmpgogppaaW.PrintLast Go.Proofs.YtjicfkmpgogppaaW.PrintMore
theorem all_some (l : List V) (h : l.length ≤ 1000000) : pack_All.f l = some (2, 0, E0, l) := by
  unfold pack_All.f pack_Value_77.f
  simp only [Option.bind_some, List.length_nil, List.nil_append]
  rw [if_pos (by omega)]
  rfl
theorem value_l1 (x3 : List V) (h3 : x3.length ≤ 1000000) (x10 : List A_) (x11 i : Int) (hi : 0 ≤ i) (hi2 : i ≤ 1000000) (nm : ByteArray) (fl : List A_) (x : A_) (hd : x.f1.length ≤ 1000000) : ∀ (d j : Nat), j + d = x.f1.length → ∀ K, graph_Value.l1 (K + d + 1) x3 ((x.f1.take j).map strV) x10 x11 i x.f1 x.f1.length j nm fl x.f0 x.f1 x.f2 x.f3 x.f4 x.f5 = graph_Value.l0 K (x3 ++ [nodeV x]) x10 x11 (i + 1) nm fl
  | 0, j, h, K => by
    have hl : ((x.f1.take j).map strV).length ≤ 1000000 := by rw [List.length_map, List.length_take]; omega
    rw [graph_Value.l1, if_neg (by omega)]
    simp only [pack_Str.f, pack_Num.f, Option.bind_some]
    rw [all_some _ hl, Option.bind_some, all_some _ (by simp), Option.bind_some, if_pos (by omega), w64 (by omega) (by omega), List.take_of_length_le (by omega)]
    rfl
  | d + 1, j, h, K => by
    have e1' : wrap64 ((j : Int) + 1) = ((j + 1 : Nat) : Int) := by rw [w64 (by omega) (by omega)]; rfl
    have hj : j < x.f1.length := by omega
    have hd' : rdOf ByteArray.empty x.f1 (j : Int) = x.f1[j] := by
      unfold rdOf
      rw [Int.toNat_natCast, List.getD_eq_getElem?_getD, List.getElem?_eq_getElem hj]; rfl
    have hlen : ((x.f1.take j).map strV).length = j := by rw [List.length_map, List.length_take]; omega
    have happ : (x.f1.take j).map strV ++ [strV x.f1[j]] = (x.f1.take (j + 1)).map strV := by
      rw [List.take_succ_eq_append_getElem hj, List.map_append]; rfl
    rw [show K + (d + 1) + 1 = (K + d + 1) + 1 by omega, graph_Value.l1, if_pos (by omega), if_pos (by omega), if_pos (by omega), hd']
    simp only [pack_Str.f, Option.bind_some]
    rw [if_pos (by omega), e1']
    have ih := value_l1 x3 h3 x10 x11 i hi hi2 nm fl x hd d (j + 1) (by omega) K
    rw [← happ] at ih
    exact ih
theorem value_l0 (nm : ByteArray) (l : List A_) (hl : l.length ≤ 1000000) (hd : ∀ x ∈ l, x.f1.length ≤ 1000000) : ∀ (d i : Nat), i + d = l.length → ∃ K0, ∀ K, K0 ≤ K → graph_Value.l0 K ((l.take i).map nodeV) l l.length i nm l = some (2, 0, E0, [strV nm, allV (l.map nodeV)])
  | 0, i, h => by
    refine ⟨1, fun K hK => ?_⟩
    obtain ⟨K, rfl⟩ : ∃ m, K = m + 1 := ⟨K - 1, by omega⟩
    rw [graph_Value.l0, if_neg (by omega), List.take_of_length_le (by omega)]
    simp only [pack_Str.f, Option.bind_some]
    rw [all_some _ (by rw [List.length_map]; omega), Option.bind_some, all_some _ (by simp), Option.bind_some]
    rfl
  | d + 1, i, h => by
    obtain ⟨K0, h0⟩ := value_l0 nm l hl hd d (i + 1) (by omega)
    have hi : i < l.length := by omega
    have hr : rd_T48 l (i : Int) = l[i] := by
      unfold rd_T48
      rw [Int.toNat_natCast, List.getD_eq_getElem?_getD, List.getElem?_eq_getElem hi]; rfl
    have hdi := hd _ (List.getElem_mem hi)
    have hlen : ((l.take i).map nodeV).length = i := by rw [List.length_map, List.length_take]; omega
    have happ : (l.take i).map nodeV ++ [nodeV l[i]] = (l.take (i + 1)).map nodeV := by
      rw [List.take_succ_eq_append_getElem hi, List.map_append]; rfl
    refine ⟨K0 + l[i].f1.length + 2, fun K hK => ?_⟩
    obtain ⟨K, rfl⟩ : ∃ m, K = m + l[i].f1.length + 1 + 1 := ⟨K - l[i].f1.length - 2, by omega⟩
    have h1 := value_l1 ((l.take i).map nodeV) (by omega) l l.length i (by omega) (by omega) nm l l[i] hdi l[i].f1.length 0 (by omega) K
    rw [happ] at h1
    rw [graph_Value.l0, if_pos (by omega), if_pos (by omega), if_pos (by omega), hr]
    exact h1.trans (h0 K (by omega))
theorem value_some (nm : ByteArray) (l : List A_) (hl : l.length ≤ 1000000) (hd : ∀ x ∈ l, x.f1.length ≤ 1000000) : ∃ K0, ∀ K, K0 ≤ K → graph_Value.f K nm l = some (2, 0, E0, [strV nm, allV (l.map nodeV)]) := value_l0 nm l hl hd l.length 0 (by omega)
theorem node_some (v : V) (hv : ∀ y ∈ v.f3, y.f3.length ≤ 1000000) : graph_node.f v.f0 v.f1 v.f2 v.f3 = some (nodeT (nodeR v)) := by
  have e : (⟨v.f0, v.f1, v.f2, v.f3⟩ : V) = v := by cases v; rfl
  unfold graph_node.f
  rw [e, if_pos]
  rw [List.all_eq_true]
  exact fun y hy => decide_eq_true (hv y hy)
theorem read_l0 (nm : ByteArray) (l : List V) (hl : l.length ≤ 1000000) (hv : ∀ x ∈ l, ∀ y ∈ x.f3, y.f3.length ≤ 1000000) : ∀ (d i : Nat), i + d = l.length → ∀ acc : List A_, acc.length = i → ∃ K0, ∀ K, K0 ≤ K → graph_Read.l0 K l l.length i nm acc = some (match nodesR (l.drop i) with
    | some r => (nm, acc ++ r, 0)
    | none => (E0, [], 4))
  | 0, i, h, acc, ha => by
    refine ⟨1, fun K hK => ?_⟩
    obtain ⟨K, rfl⟩ : ∃ m, K = m + 1 := ⟨K - 1, by omega⟩
    rw [graph_Read.l0, if_neg (by omega), List.drop_of_length_le (by omega)]
    simp [nodesR]
  | d + 1, i, h, acc, ha => by
    have e1' : wrap64 ((i : Int) + 1) = ((i + 1 : Nat) : Int) := by rw [w64 (by omega) (by omega)]; rfl
    have hi : i < l.length := by omega
    have h1 := node_some l[i] (hv _ (List.getElem_mem hi))
    cases c : nodeR l[i] with
    | none =>
      refine ⟨1, fun K hK => ?_⟩
      obtain ⟨K, rfl⟩ : ∃ m, K = m + 1 := ⟨K - 1, by omega⟩
      have h1' := h1
      rw [c] at h1'
      rw [graph_Read.l0, if_pos (by omega), if_pos (by omega), if_pos (by omega), rdV_nat l i hi, h1', Option.bind_some]
      rw [List.drop_eq_getElem_cons hi, nodesR, c]
      rfl
    | some x =>
      obtain ⟨K2, h2⟩ := read_l0 nm l hl hv d (i + 1) (by omega) (acc ++ [x]) (by rw [List.length_append, ha]; rfl)
      refine ⟨K2 + 1, fun K hK => ?_⟩
      obtain ⟨K, rfl⟩ : ∃ m, K = m + 1 := ⟨K - 1, by omega⟩
      have h1' := h1
      rw [c] at h1'
      rw [graph_Read.l0, if_pos (by omega), if_pos (by omega), if_pos (by omega), rdV_nat l i hi, h1', Option.bind_some, e1']
      rw [if_pos (by rfl), if_pos (by omega)]
      refine (h2 K (by omega)).trans ?_
      rw [List.drop_eq_getElem_cons hi, nodesR, c]
      cases nodesR (l.drop (i + 1)) with
      | none => rfl
      | some r => simp
theorem read_some (v : V) (hv : v.f3.length ≤ 1000000 ∧ ∀ x ∈ v.f3, x.f3.length ≤ 1000000 ∧ ∀ y ∈ x.f3, ∀ z ∈ y.f3, z.f3.length ≤ 1000000) : ∃ K0, ∀ K, K0 ≤ K → graph_Read.f K v.f0 v.f1 v.f2 v.f3 = some (flowR v) := by
  obtain ⟨a, b, c, l⟩ := v
  obtain ⟨hl0, hl⟩ := hv
  by_cases h : shapedB a l [1, 2] = true
  · have hl2 : l.length = 2 := by
      have := congrArg List.length (of_decide_eq_true h).2
      simpa using this
    have hl3 : (⟨a, b, c, l⟩ : V).f3.length = 2 := hl2
    have hm : at_ ⟨a, b, c, l⟩ 1 ∈ l := by
      show l.getD 1 _ ∈ l
      rw [List.getD_eq_getElem?_getD, List.getElem?_eq_getElem (by omega)]
      exact List.getElem_mem _
    obtain ⟨h1, h2⟩ := hl _ hm
    obtain ⟨K0, h0⟩ := read_l0 (at_ ⟨a, b, c, l⟩ 0).f2 (at_ ⟨a, b, c, l⟩ 1).f3 h1 h2 (at_ ⟨a, b, c, l⟩ 1).f3.length 0 (by omega) [] rfl
    refine ⟨K0 + 4, fun K hK => ?_⟩
    have hs := shaped_some a b c l [1, 2] (by decide) (K - 4)
    rw [show K - 4 + ([1, 2] : List Int).length + 2 = K by show K - 4 + 2 + 2 = K; omega] at hs
    have e0 : rd_T54 l 0 = at_ ⟨a, b, c, l⟩ 0 := rd_at l 0
    have e1 : rd_T54 l 1 = at_ ⟨a, b, c, l⟩ 1 := rd_at l 1
    unfold graph_Read.f flowR
    rw [hs, Option.bind_some, if_pos h, if_pos h, if_pos (by omega), if_pos (by omega), e0, e1]
    refine (h0 K (by omega)).trans ?_
    rw [List.drop_zero]
    cases nodesR (at_ ⟨a, b, c, l⟩ 1).f3 with
    | none => rfl
    | some r => rfl
  · refine ⟨4, fun K hK => ?_⟩
    have hs := shaped_some a b c l [1, 2] (by decide) (K - 4)
    rw [show K - 4 + ([1, 2] : List Int).length + 2 = K by show K - 4 + 2 + 2 = K; omega] at hs
    unfold graph_Read.f flowR
    rw [hs, Option.bind_some, if_neg h, if_neg h]
end Go.Proofs.Ytjicfkmpgogppaa.Gv
namespace Go.Proofs.Ytjicfkmpgogppaa.Gv
set_option linter.unusedVariables false
set_option linter.unusedSimpArgs false
open Go Go.RowKit Go.Proofs.Ytjicfkmpgogppaa.Plain Go.Proofs.Ytjicfkmpgogppaa.Vs Go.Proofs.Ytjicfkmpgogppaa.PA Go.Proofs.YtjicfkmpgogppaaW.PrintWords Go.Proofs.YtjicfkmpgogppaaW.PrintLast Go.Proofs.YtjicfkmpgogppaaW.PrintMore
theorem six {l : List V} (h : l.length = 6) : ∃ v0 v1 v2 v3 v4 v5, l = [v0, v1, v2, v3, v4, v5] := by
  match l, h with
  | [v0, v1, v2, v3, v4, v5], _ => exact ⟨v0, v1, v2, v3, v4, v5, rfl⟩
theorem nodeR_lim {v : V} (hv : Small v) {x : A_} (h : nodeR v = some x) : x.f1.length ≤ 1000 := by
  obtain ⟨a, b, c, l⟩ := v
  unfold nodeR at h
  split at h
  · rename_i hs
    obtain ⟨ha, hl⟩ := of_decide_eq_true hs
    split at h
    · split at h
      · have h := Option.some.inj h
        obtain ⟨v0, v1, v2, v3, v4, v5, rfl⟩ := six (by have := congrArg List.length hl; simpa using this)
        subst h
        show (v1.f3.map (·.f2)).length ≤ _
        rw [List.length_map]
        rw [Small_eq] at hv
        have := hv.2 v1 (by simp)
        rw [Small_eq] at this
        exact this.1
      · cases h
    · cases h
  · cases h
theorem nodesR_lim : ∀ (l : List V) (r : List A_), (∀ x ∈ l, Small x) → nodesR l = some r → r.length = l.length ∧ ∀ x ∈ r, x.f1.length ≤ 1000
  | [], r, _, h => by
    obtain rfl := Option.some.inj h
    exact ⟨rfl, fun x hx => by cases hx⟩
  | v :: l, r, hv, h => by
    rw [nodesR] at h
    cases c : nodeR v with
    | none => rw [c] at h; cases h
    | some x =>
      rw [c] at h
      cases d : nodesR l with
      | none => rw [d] at h; cases h
      | some s =>
        rw [d] at h
        obtain rfl := Option.some.inj h
        obtain ⟨h1, h2⟩ := nodesR_lim l s (fun y hy => hv y (by simp [hy])) d
        refine ⟨by simp only [List.length_cons, h1], fun y hy => ?_⟩
        rcases List.mem_cons.1 hy with rfl | hy
        · exact nodeR_lim (hv v (by simp)) c
        · exact h2 y hy
end Go.Proofs.Ytjicfkmpgogppaa.Gv
