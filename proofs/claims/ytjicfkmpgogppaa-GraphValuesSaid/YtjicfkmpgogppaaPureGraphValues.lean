/-
  GraphValues, plain: the program's workflows and values are the document's.
-/
import Derived.Test.YtjicfkmpgogppaaGfP
import Derived.Test.YtjicfkmpgogppaaBuiltS
import Derived.Test.YtjicfkmpgogppaaFlows
import Derived.Test.YtjicfkmpgogppaaVals
import Derived.Test.YtjicfkmpgogppaaPGx33
namespace Go.Proofs.Ytjicfkmpgogppaa.Gv
set_option linter.unusedVariables false
set_option linter.unusedSimpArgs false
open Go Go.RowKit Go.Proofs.Ytjicfkmpgogppaa.Plain Go.Proofs.Ytjicfkmpgogppaa.Gr Go.Proofs.Ytjicfkmpgogppaa.Vs Go.Proofs.Ytjicfkmpgogppaa.PG Go.Proofs.YtjicfkmpgogppaaW.PrintWords Go.Proofs.YtjicfkmpgogppaaW.PrintLast Go.Proofs.YtjicfkmpgogppaaW.PrintMore
theorem shaped_toW (k : Int) (l : List V) (ks : List Int) : Rw.shapedW k (toWs l) ks = shapedB k l ks := by
  unfold Rw.shapedW shapedB
  rw [decide_eq_decide, toWs_map, List.map_map]
  have e : l.map ((fun x : Vs.W => x.f0) ∘ toW) = l.map (·.f0) := List.map_congr_left fun x _ => toW_0 x
  rw [e]
theorem texts_toW (l : List V) : Rw.textsW (toWs l) = textsB l := by
  unfold Rw.textsW textsB
  rw [toWs_map, List.all_map]
  congr 1
  funext x
  show ((toW x).f0 == 1) = _
  rw [toW_0]
theorem at_toW (v : V) (i : Nat) : Rw.atW (toW v) i = toW (at_ v i) := by
  show (toW v).f3.getD i _ = toW (v.f3.getD i _)
  rw [toW_3, toWs_map, List.getD_eq_getElem?_getD, List.getElem?_map, List.getD_eq_getElem?_getD]
  cases v.f3[i]? with
  | none => rfl
  | some x => rfl
theorem node_toW (v : V) : Rw.nodeRW (toW v) = (nodeR v).map cB := by
  unfold Rw.nodeRW nodeR
  rw [toW_0, toW_3, shaped_toW, at_toW, at_toW, at_toW, at_toW, at_toW, at_toW, toW_1, toW_1, toW_1, toW_2, toW_2, toW_3, texts_toW]
  have e : (toWs (at_ v 1).f3).map (fun x : Vs.W => x.f2) = (at_ v 1).f3.map (·.f2) := by
    rw [toWs_map, List.map_map]
    exact List.map_congr_left fun x _ => toW_2 x
  rw [e]
  have e2 : Rw.inr = inr := rfl
  rw [e2]
  split
  · split
    · split <;> rfl
    · rfl
  · rfl
theorem nodes_toW : ∀ l : List V, Rw.nodesRW (toWs l) = (nodesR l).map (·.map cB)
  | [] => rfl
  | x :: l => by
    rw [toWs, Rw.nodesRW, nodesR, node_toW, nodes_toW l]
    cases nodeR x with
    | none => rfl
    | some y =>
      cases nodesR l with
      | none => rfl
      | some r => rfl
theorem flow_toW (v : V) : Rw.flowRW (toW v) = ((flowR v).1, (flowR v).2.1.map cB, (flowR v).2.2) := by
  unfold Rw.flowRW flowR
  rw [toW_0, toW_3, shaped_toW, at_toW, at_toW, toW_2, toW_3, nodes_toW]
  split
  · cases nodesR (at_ v 1).f3 with
    | none => rfl
    | some r => rfl
  · rfl
theorem strs_toW (l : List ByteArray) : toWs (l.map strV) = l.map Vw.strW := by
  rw [toWs_map, List.map_map]
  exact List.map_congr_left fun x _ => rfl
theorem node_val (x : A_) : toW (nodeV x) = Vw.nodeW (cB x) := by
  unfold nodeV Vw.nodeW allV Vw.allW
  rw [toW]
  congr 1
  simp only [toWs, toW]
  rw [strs_toW]
  rfl
theorem flow_val (nm : ByteArray) (l : List A_) : toW (flowV nm l) = Vw.allW [Vw.strW nm, Vw.allW ((l.map cB).map Vw.nodeW)] := by
  unfold flowV allV Vw.allW
  rw [toW]
  congr 1
  simp only [toWs, toW]
  have e : toWs (l.map nodeV) = (l.map cB).map Vw.nodeW := by
    rw [toWs_map, List.map_map, List.map_map]
    exact List.map_congr_left fun x _ => node_val x
  rw [e]
  rfl
theorem small_str (s : ByteArray) : Small (strV s) := by rw [Small_eq]; simp [strV]
theorem small_num (n : Int) : Small (numV n) := by rw [Small_eq]; simp [numV]
theorem small_all {l : List V} (hl : l.length ≤ 1000) (h : ∀ x ∈ l, Small x) : Small (allV l) := by rw [Small_eq]; exact ⟨hl, h⟩
theorem small_node {x : A_} (h : x.f1.length ≤ 1000) : Small (nodeV x) := by
  refine small_all (by simp) (fun y hy => ?_)
  simp only [List.mem_cons, List.not_mem_nil, or_false] at hy
  rcases hy with rfl | rfl | rfl | rfl | rfl | rfl
  · exact small_str _
  · refine small_all (by rw [List.length_map]; exact h) (fun z hz => ?_)
    obtain ⟨s, _, rfl⟩ := List.mem_map.1 hz
    exact small_str _
  · exact small_num _
  · exact small_num _
  · exact small_num _
  · exact small_str _
theorem small_flow {nm : ByteArray} {l : List A_} (hl : l.length ≤ 1000) (h : ∀ x ∈ l, x.f1.length ≤ 1000) : Small (flowV nm l) := by
  refine small_all (by simp) (fun y hy => ?_)
  simp only [List.mem_cons, List.not_mem_nil, or_false] at hy
  rcases hy with rfl | rfl
  · exact small_str _
  · refine small_all (by rw [List.length_map]; exact hl) (fun z hz => ?_)
    obtain ⟨x, hx, rfl⟩ := List.mem_map.1 hz
    exact small_node (h x hx)
/-- a workflow's value is the document's -/
theorem same_flow (nm : ByteArray) (l : List A_) (hl : l.length ≤ 1000) (h : ∀ x ∈ l, x.f1.length ≤ 1000) : ∃ K0, ∀ K, K0 ≤ K → ((graph_Value.f K nm l).bind fun x => (precinctref12_Value.f nm (l.map cB)).bind fun y => precinctlaw12_same.f K x.1 x.2.1 x.2.2.1 x.2.2.2 y.1 y.2.1 y.2.2.1 y.2.2.2) = some true := by
  obtain ⟨K1, h1⟩ := value_some nm l (by omega) (fun x hx => by have := h x hx; omega)
  obtain ⟨K2, h2⟩ := same_toW (flowV nm l) (small_flow hl h)
  refine ⟨K1 + K2, fun K hK => ?_⟩
  have e : precinctref12_Value.f nm (l.map cB) = some (2, 0, ⟨#[]⟩, [Vw.strW nm, Vw.allW ((l.map cB).map Vw.nodeW)]) := by
    unfold precinctref12_Value.f
    rw [if_pos]
    rw [Bool.and_eq_true, decide_eq_true_iff, List.all_eq_true, List.length_map]
    refine ⟨by omega, fun x hx => ?_⟩
    obtain ⟨y, hy, rfl⟩ := List.mem_map.1 hx
    rw [decide_eq_true_iff]
    have := h y hy
    show y.f1.length ≤ _
    omega
  rw [h1 K (by omega), e, Option.bind_some, Option.bind_some]
  have h3 := up_le (fun k => precinctlaw12_same.mono _ _ _ _ _ _ _ _ k) (show K2 ≤ K by omega) h2
  rw [flow_val] at h3
  exact h3
theorem flowR_lim2 {v : V} (h : Small v) : (flowR v).2.1.length ≤ 1000 ∧ ∀ x ∈ (flowR v).2.1, x.f1.length ≤ 1000 := by
  rw [Small_eq] at h
  unfold flowR
  by_cases hs : shapedB v.f0 v.f3 [1, 2] = true
  · rw [if_pos hs]
    cases d : nodesR (at_ v 1).f3 with
    | none => exact ⟨by simp, fun x hx => by cases hx⟩
    | some r =>
      have hm : at_ v 1 ∈ v.f3 := by
        have := congrArg List.length (of_decide_eq_true hs).2
        have hl2 : v.f3.length = 2 := by simpa using this
        show v.f3.getD 1 _ ∈ v.f3
        rw [List.getD_eq_getElem?_getD, List.getElem?_eq_getElem (by omega)]
        exact List.getElem_mem _
      have h1 := h.2 _ hm
      rw [Small_eq] at h1
      obtain ⟨h3, h4⟩ := nodesR_lim _ _ (fun x hx => h1.2 x hx) d
      exact ⟨by show r.length ≤ _; omega, h4⟩
  · rw [if_neg hs]
    exact ⟨by simp, fun x hx => by cases hx⟩
theorem rread_some {v : V} (h : Small v) : precinctref12_Read.f (toW v).f0 (toW v).f1 (toW v).f2 (toW v).f3 = some ((flowR v).1, (flowR v).2.1.map cB, (flowR v).2.2) := by
  have e : (⟨(toW v).f0, (toW v).f1, (toW v).f2, (toW v).f3⟩ : Vs.W) = toW v := by cases toW v; rfl
  unfold precinctref12_Read.f
  rw [e, flow_toW, if_pos]
  rw [Rw.limB_iff]
  have key : ∀ y : V, (toW y).f3.length = y.f3.length := fun y => by rw [toW_3, toWs_map, List.length_map]
  have mem : ∀ (y : V) (z : Vs.W), z ∈ (toW y).f3 → ∃ u ∈ y.f3, z = toW u := fun y z hz => by
    rw [toW_3, toWs_map] at hz
    obtain ⟨u, hu, rfl⟩ := List.mem_map.1 hz
    exact ⟨u, hu, rfl⟩
  have sm : ∀ y : V, Small y → y.f3.length ≤ 1000000 := fun y hy => by rw [Small_eq] at hy; omega
  have ch : ∀ y u : V, Small y → u ∈ y.f3 → Small u := fun y u hy hu => by rw [Small_eq] at hy; exact hy.2 u hu
  refine ⟨by rw [key]; exact sm _ h, fun x hx => ?_⟩
  obtain ⟨u, hu, rfl⟩ := mem _ _ hx
  refine ⟨by rw [key]; exact sm _ (ch _ _ h hu), fun y hy => ?_⟩
  obtain ⟨u2, hu2, rfl⟩ := mem _ _ hy
  refine ⟨by rw [key]; exact sm _ (ch _ _ (ch _ _ h hu) hu2), fun z hz => ?_⟩
  obtain ⟨u3, hu3, rfl⟩ := mem _ _ hz
  rw [key]
  exact sm _ (ch _ _ (ch _ _ (ch _ _ h hu) hu2) hu3)
abbrev I := Bu.I
theorem values_pure (nm : ByteArray) (l : List Fw.T) (l1 : List I) : ∃ k, precinctlaw12_GraphValues.f k nm l l1 = some true := by
  have hs := Bs.built_small l1
  have hl : ((l.take 20).map Fw.toA).length ≤ 20 := by rw [List.length_map, List.length_take]; omega
  have hd : ∀ x ∈ (l.take 20).map Fw.toA, x.f1.length ≤ 1000 := fun x hx => by
    obtain ⟨z, _, rfl⟩ := List.mem_map.1 hx
    show (z.f1.take 20).length ≤ _
    rw [List.length_take]; omega
  have eB : (l.take 20).map Fw.toB = ((l.take 20).map Fw.toA).map cB := by rw [List.map_map]; rfl
  unfold precinctlaw12_GraphValues.f precinctlaw12_flows.f precinctlaw12_build.f precinctlaw12_wakes.f
  simp only [Option.bind_some, eB, if_true]
  generalize (l.take 20).map Fw.toA = a at hl hd
  obtain ⟨K1, h1⟩ := read_some (Bu.built l1) (small_lim hs)
  obtain ⟨K2, h2⟩ := same_flow nm a (by omega) hd
  obtain ⟨hl3, hd3⟩ := flowR_lim2 hs
  obtain ⟨K3, h3⟩ := same_flow (flowR (Bu.built l1)).1 (flowR (Bu.built l1)).2.1 hl3 hd3
  refine ⟨K1 + K2 + K3, ?_⟩
  have hr := rread_some hs
  have eW : Bu.toW (Bu.built l1) = toW (Bu.built l1) := rfl
  rw [h1 _ (by omega), Option.bind_some, eW, hr, Option.bind_some]
  have h2' := h2 (K1 + K2 + K3) (by omega)
  have h3' := h3 (K1 + K2 + K3) (by omega)
  obtain ⟨x, hx, h2'⟩ := Option.bind_eq_some_iff.1 h2'
  obtain ⟨y, hy, h2'⟩ := Option.bind_eq_some_iff.1 h2'
  obtain ⟨x2, hx2, h3'⟩ := Option.bind_eq_some_iff.1 h3'
  obtain ⟨y2, hy2, h3'⟩ := Option.bind_eq_some_iff.1 h3'
  rw [hx, Option.bind_some, hy, Option.bind_some, h2', Option.bind_some, if_pos rfl, if_pos rfl, hx2, Option.bind_some, hy2, Option.bind_some, h3', Option.bind_some]
end Go.Proofs.Ytjicfkmpgogppaa.Gv
namespace Go.Proofs.Ytjicfkmpgogppaa.Pure
open Go Go.RowKit Go.Proofs.Ytjicfkmpgogppaa.PG
theorem GraphValues : ∀ (a0_0 : ByteArray) (l0_1 : List (S124)) (l1 : List (S137)), (∀ x ∈ l1, (Lit.int .i64 x.f0).wf = true ∧ (Lit.int .i64 x.f1).wf = true ∧ x.f2.size ≤ maxLen ∧ (Lit.int .i64 x.f3).wf = true) → l1.length ≤ maxLen → ∃ k, precinctlaw12_GraphValues.f k a0_0 l0_1 l1 = some true := fun nm l l1 _ _ => Gv.values_pure nm l l1
end Go.Proofs.Ytjicfkmpgogppaa.Pure
