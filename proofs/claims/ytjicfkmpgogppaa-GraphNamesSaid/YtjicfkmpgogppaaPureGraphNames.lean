/-
  The statement GraphNames, plain: other names of the nodes make no difference.
-/
import Derived.Test.YtjicfkmpgogppaaGrN
import Derived.Test.YtjicfkmpgogppaaTnT
import Derived.Test.YtjicfkmpgogppaaOpenNode
import Derived.Test.YtjicfkmpgogppaaPGx21
namespace Go.Proofs.Ytjicfkmpgogppaa.Gr
set_option linter.unusedVariables false
set_option linter.unusedSimpArgs false
open Go Go.RowKit Go.Proofs.Ytjicfkmpgogppaa.Plain Go.Proofs.Ytjicfkmpgogppaa.PG Go.Proofs.YtjicfkmpgogppaaW.PrintWords Go.Proofs.YtjicfkmpgogppaaW.PrintLast Go.Proofs.YtjicfkmpgogppaaW.PrintMore
theorem names_l1 (y n i : Int) (a bb : List A_) (nm t : ByteArray) (ds : List ByteArray) (f2 f3 f4 : Int) (f5 : ByteArray) (hi : 0 ≤ i) (hi2 : i ≤ 20) (hb : bb.length ≤ 20) (hl : ds.length ≤ 20) (hs : ∀ d ∈ ds, d.size ≤ 9223372036854775807) : ∀ (d j : Nat), j + d = ds.length → ∀ K, precinctlaw12_GraphNames.l1 (K + d + 1) y ((ds.take j).map (turn (mx 0 y % 26))) a n i ds ds.length j nm a nm bb t ds f2 f3 f4 f5 = precinctlaw12_GraphNames.l0 K y a n (i + 1) nm a nm (bb ++ [⟨t, ds.map (turn (mx 0 y % 26)), f2, f3, f4, f5⟩])
  | 0, j, h, K => by
    rw [precinctlaw12_GraphNames.l1, if_neg (by omega), if_pos (by omega), w64 (by omega) (by omega), List.take_of_length_le (by omega)]
  | d + 1, j, h, K => by
    have e1' : wrap64 ((j : Int) + 1) = ((j + 1 : Nat) : Int) := by rw [w64 (by omega) (by omega)]; rfl
    have hj : j < ds.length := by omega
    have hd : rdOf ByteArray.empty ds (j : Int) = ds[j] := by
      unfold rdOf
      rw [Int.toNat_natCast, List.getD_eq_getElem?_getD, List.getElem?_eq_getElem hj]; rfl
    have ht : Tn.turn.f ds[j] y = some (turn (mx 0 y % 26) ds[j]) := by
      unfold Tn.turn.f
      rw [if_pos (hs _ (List.getElem_mem hj))]
    have hlen : ((ds.take j).map (turn (mx 0 y % 26))).length = j := by rw [List.length_map, List.length_take]; omega
    have happ : (ds.take j).map (turn (mx 0 y % 26)) ++ [turn (mx 0 y % 26) ds[j]] = (ds.take (j + 1)).map (turn (mx 0 y % 26)) := by
      rw [List.take_succ_eq_append_getElem hj, List.map_append]; rfl
    rw [show K + (d + 1) + 1 = (K + d + 1) + 1 by omega, precinctlaw12_GraphNames.l1, if_pos (by omega), if_pos (by omega), if_pos (by omega), hd, ht, Option.bind_some, if_pos (by omega), happ, e1']
    exact names_l1 y n i a bb nm t ds f2 f3 f4 f5 hi hi2 hb hl hs d (j + 1) (by omega) K
theorem names_l2 (x : List Int) (hx : x.length ≤ 4096) : ∀ (d i : Nat), i + d = x.length → ∀ K, precinctlaw12_GraphNames.l2 (K + d + 1) x x x.length i = some true
  | 0, i, h, K => by rw [precinctlaw12_GraphNames.l2, if_neg (by omega)]; simp
  | d + 1, i, h, K => by
    have e1' : wrap64 ((i : Int) + 1) = ((i + 1 : Nat) : Int) := by rw [w64 (by omega) (by omega)]; rfl
    rw [show K + (d + 1) + 1 = (K + d + 1) + 1 by omega, precinctlaw12_GraphNames.l2, if_pos (by omega), if_neg (by omega), if_pos (by omega), if_pos (by omega), if_pos (by omega), if_pos rfl, e1']
    exact names_l2 x hx d (i + 1) (by omega) K
theorem names_end (y : Int) (nm : ByteArray) (a : List A_) (hd : ∀ i, i < a.length → (nd a i).f1.length ≤ 9223372036854775806) (κ : Int) : ∃ K0, ∀ K, K0 ≤ K → precinctlaw12_GraphNames.l0 K y a a.length a.length nm a nm (a.map (ren κ)) = some true := by
  have hd2 : ∀ i, i < (a.map (ren κ)).length → (nd (a.map (ren κ)) i).f1.length ≤ 9223372036854775806 := by
    intro i hi
    rw [List.length_map] at hi
    rw [nd_ren κ a i hi]
    have := hd i hi
    unfold ren
    rwa [List.length_map]
  obtain ⟨K1, h1⟩ := check_some nm a hd
  obtain ⟨K2, h2⟩ := check_some nm (a.map (ren κ)) hd2
  rw [chk_ren] at h2
  by_cases c : (chk nm a).2 = 0
  · obtain ⟨hu, hl⟩ := chk_ok c
    obtain ⟨K3, h3⟩ := masks_some nm a (by omega) hd
    obtain ⟨K4, h4⟩ := masks_some nm (a.map (ren κ)) (by rw [List.length_map]; omega) hd2
    rw [masks_ren] at h4
    have hx : (ints ((List.range a.length).map (msk a))).length = a.length := by rw [ints_length]; simp
    refine ⟨K1 + K2 + K3 + K4 + a.length + 3, fun K hK => ?_⟩
    obtain ⟨K, rfl⟩ : ∃ m, K = m + K1 + K2 + K3 + K4 + a.length + 1 + 1 + 1 := ⟨K - K1 - K2 - K3 - K4 - a.length - 3, by omega⟩
    have h5 := names_l2 (ints ((List.range a.length).map (msk a))) (by omega) a.length 0 (by omega) (K + K1 + K2 + K3 + K4)
    rw [precinctlaw12_GraphNames.l0, if_neg (by omega), h1 _ (by omega), Option.bind_some, h2 _ (by omega), Option.bind_some]
    unfold precinctlaw12_wakes.f
    rw [Option.bind_some, if_pos rfl, if_pos rfl, precinctlaw12_GraphNames.j2, if_neg (by simp), if_pos c]
    rw [show K + K1 + K2 + K3 + K4 + a.length + 1 = (K + K1 + K2 + K4 + a.length + 1) + K3 by omega, h3, Option.bind_some]
    rw [show K + K1 + K2 + K4 + a.length + 1 + K3 = (K + K1 + K2 + K3 + a.length + 1) + K4 by omega, h4, Option.bind_some]
    rw [show K + K1 + K2 + K3 + a.length + 1 + K4 = K + K1 + K2 + K3 + K4 + a.length + 1 by omega]
    exact h5
  · refine ⟨K1 + K2 + 2, fun K hK => ?_⟩
    obtain ⟨K, rfl⟩ : ∃ m, K = m + K1 + K2 + 1 + 1 := ⟨K - K1 - K2 - 2, by omega⟩
    rw [precinctlaw12_GraphNames.l0, if_neg (by omega), h1 _ (by omega), Option.bind_some, h2 _ (by omega), Option.bind_some]
    unfold precinctlaw12_wakes.f
    rw [Option.bind_some, if_pos rfl, if_pos rfl, precinctlaw12_GraphNames.j2, if_neg (by simp), if_neg c]
theorem names_l0 (y : Int) (nm : ByteArray) (a : List A_) (ha : a.length ≤ 20) (hd : ∀ i, i < a.length → (nd a i).f1.length ≤ 20) (hs : ∀ x ∈ a, x.f0.size ≤ 9223372036854775807 ∧ ∀ d ∈ x.f1, d.size ≤ 9223372036854775807) : ∀ (d i : Nat), i + d = a.length → ∃ K0, ∀ K, K0 ≤ K → precinctlaw12_GraphNames.l0 K y a a.length i nm a nm ((a.take i).map (ren (mx 0 y % 26))) = some true
  | 0, i, h => by
    obtain rfl : i = a.length := by omega
    rw [List.take_of_length_le (Nat.le_refl _)]
    exact names_end y nm a (fun i hi => by have := hd i hi; omega) _
  | d + 1, i, h => by
    obtain ⟨K0, h0⟩ := names_l0 y nm a ha hd hs d (i + 1) (by omega)
    have hi : i < a.length := by omega
    have hr : rd_T48 a (i : Int) = a[i] := by
      unfold rd_T48
      rw [Int.toNat_natCast, List.getD_eq_getElem?_getD, List.getElem?_eq_getElem hi]; rfl
    have hdi := hd i hi
    have hndi : nd a i = a[i] := by
      unfold nd
      rw [List.getD_eq_getElem?_getD, List.getElem?_eq_getElem hi]; rfl
    rw [hndi] at hdi
    obtain ⟨s0, s1⟩ := hs _ (List.getElem_mem hi)
    have ht : Tn.turn.f a[i].f0 y = some (turn (mx 0 y % 26) a[i].f0) := by
      unfold Tn.turn.f
      rw [if_pos s0]
    have hlen : ((a.take i).map (ren (mx 0 y % 26))).length = i := by rw [List.length_map, List.length_take]; omega
    have happ : (a.take i).map (ren (mx 0 y % 26)) ++ [⟨turn (mx 0 y % 26) a[i].f0, a[i].f1.map (turn (mx 0 y % 26)), a[i].f2, a[i].f3, a[i].f4, a[i].f5⟩] = (a.take (i + 1)).map (ren (mx 0 y % 26)) := by
      rw [List.take_succ_eq_append_getElem hi, List.map_append]; rfl
    refine ⟨K0 + a[i].f1.length + 2, fun K hK => ?_⟩
    obtain ⟨K, rfl⟩ : ∃ m, K = m + a[i].f1.length + 1 + 1 := ⟨K - a[i].f1.length - 2, by omega⟩
    have h1 := names_l1 y a.length i a ((a.take i).map (ren (mx 0 y % 26))) nm (turn (mx 0 y % 26) a[i].f0) a[i].f1 a[i].f2 a[i].f3 a[i].f4 a[i].f5 (by omega) (by omega) (by omega) hdi s1 a[i].f1.length 0 (by omega) K
    rw [happ] at h1
    rw [precinctlaw12_GraphNames.l0, if_pos (by omega), if_pos (by omega), if_pos (by omega), hr, ht, Option.bind_some]
    exact h1.trans (h0 K (by omega))
theorem names_pure (nm : ByteArray) (l : List Fw.T) (y : Int) (hg : ∀ x ∈ l, Open.NodeGood x) : ∃ k, precinctlaw12_GraphNames.f k nm l y = some true := by
  have hd := deps_20 (l.take 20)
  have hs : ∀ x ∈ (l.take 20).map Fw.toA, x.f0.size ≤ 9223372036854775807 ∧ ∀ d ∈ x.f1, d.size ≤ 9223372036854775807 := by
    intro x hx
    obtain ⟨z, hz, rfl⟩ := List.mem_map.1 hx
    obtain ⟨g0, g1, _⟩ := hg z (List.mem_of_mem_take hz)
    exact ⟨g0, fun d hd => g1 d (List.mem_of_mem_take hd)⟩
  have hl : ((l.take 20).map Fw.toA).length ≤ 20 := by rw [List.length_map, List.length_take]; omega
  unfold precinctlaw12_GraphNames.f precinctlaw12_flows.f
  simp only [Option.bind_some]
  generalize (l.take 20).map Fw.toA = a at hd hs hl
  obtain ⟨K0, h0⟩ := names_l0 y nm a hl (fun i hi => by have := hd i hi; omega) hs a.length 0 (by omega)
  exact ⟨K0, h0 K0 (Nat.le_refl _)⟩
end Go.Proofs.Ytjicfkmpgogppaa.Gr
namespace Go.Proofs.Ytjicfkmpgogppaa.Pure
open Go Go.RowKit Go.Proofs.Ytjicfkmpgogppaa.PG
theorem GraphNames : ∀ (a0_0 : ByteArray) (l0_1 : List (S124)) (a1 : Int), (∀ x ∈ l0_1, Open.NodeGood x) → (Lit.int .i64 a1).wf = true → ∃ k, precinctlaw12_GraphNames.f k a0_0 l0_1 a1 = some true := fun nm l y hg _ => Gr.names_pure nm l y hg
end Go.Proofs.Ytjicfkmpgogppaa.Pure
