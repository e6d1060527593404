/-
  A value and the one made out of it are the same.
-/
import Derived.Test.YtjicfkmpgogppaaPGx28
import Derived.Test.YtjicfkmpgogppaaValsA
namespace Go.Proofs.Ytjicfkmpgogppaa.Vs
set_option linter.unusedVariables false
set_option linter.unusedSimpArgs false
open Go Go.RowKit Go.Proofs.Ytjicfkmpgogppaa.Plain Go.Proofs.Ytjicfkmpgogppaa.PG Go.Proofs.YtjicfkmpgogppaaW.PrintWords Go.Proofs.YtjicfkmpgogppaaW.PrintLast Go.Proofs.YtjicfkmpgogppaaW.PrintMore
theorem same_loop (l : List V) (a b a' b' : Int) (c c' : ByteArray) (hl : l.length ≤ 1000) (K : Nat) (hK : ∀ x ∈ l, precinctlaw12_same.f K x.f0 x.f1 x.f2 x.f3 (toW x).f0 (toW x).f1 (toW x).f2 (toW x).f3 = some true) :
    ∀ (d : Nat) (i : Int), 0 ≤ i → i + d = l.length → precinctlaw12_same.l0 (K + d + 1) l.length i a b c l a' b' c' (toWs l) = some true
  | 0, i, h0, h => by
    simp only [precinctlaw12_same.l0]
    rw [if_neg (by omega)]
  | d + 1, i, h0, h => by
    have h1 : i < l.length := by omega
    have hw : (toWs l).length = l.length := by rw [toWs_map, List.length_map]
    have ⟨hm, he⟩ := rdV l i h0 h1
    have e1 : wrap64 (i + 1) = i + 1 := by unfold wrap64; omega
    rw [show K + (d + 1) + 1 = (K + d + 1) + 1 by omega]
    simp only [precinctlaw12_same.l0]
    rw [if_pos h1, if_pos h0, if_pos h1, if_pos (by omega), he]
    have := up_le (fun k => precinctlaw12_same.mono _ _ _ _ _ _ _ _ k) (show K ≤ K + d + 1 by omega) (hK _ hm)
    rw [this, Option.bind_some, if_pos rfl, e1]
    exact same_loop l a b a' b' c c' hl K hK d (i + 1) (by omega) (by omega)
theorem same_toW : ∀ x : V, Small x → ∃ K, precinctlaw12_same.f K x.f0 x.f1 x.f2 x.f3 (toW x).f0 (toW x).f1 (toW x).f2 (toW x).f3 = some true := by
  refine V_ind (fun a b c l ih hs => ?_)
  rw [Small_eq] at hs
  obtain ⟨K, hK⟩ := up_all (Q := fun K x => precinctlaw12_same.f K x.f0 x.f1 x.f2 x.f3 (toW x).f0 (toW x).f1 (toW x).f2 (toW x).f3 = some true) (fun K K' x h e => up_le (fun k => precinctlaw12_same.mono _ _ _ _ _ _ _ _ k) h e) l (fun x hx => ih x hx (hs.2 x hx))
  have hw : (toWs l).length = l.length := by rw [toWs_map, List.length_map]
  refine ⟨K + l.length + 3, ?_⟩
  have hn : ((l.length : Int) != ((toWs l).length : Int)) = false := by simp [hw]
  simp only [toW, precinctlaw12_same.f, if_true, hn]
  simp only [precinctlaw12_same.j0]
  exact same_loop l a b a b c c hs.1 K hK l.length 0 (by omega) (by omega)
end Go.Proofs.Ytjicfkmpgogppaa.Vs
