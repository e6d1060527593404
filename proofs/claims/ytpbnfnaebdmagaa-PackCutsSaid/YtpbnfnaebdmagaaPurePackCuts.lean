/-
  PackCuts: the bytes of a value, cut off anywhere, are too short; with more behind them they are none.
-/
import Derived.Test.YtpbnfnaebdmagaaPXx19
import Derived.Test.YtpbnfnaebdmagaaPv
import Derived.Test.YtpbnfnaebdmagaaWk
import Derived.Test.YtpbnfnaebdmagaaGetIs
namespace Go.Proofs.Ytpbnfnaebdmagaa.Pure
set_option linter.unusedVariables false
set_option linter.unusedSimpArgs false
open Go Go.RowKit Go.Proofs.Ytpbnfnaebdmagaa.Plain Go.Proofs.Ytpbnfnaebdmagaa.Vr Go.Proofs.Ytpbnfnaebdmagaa.Co Go.Proofs.Ytpbnfnaebdmagaa.Pv Go.Proofs.Ytpbnfnaebdmagaa.Bu Go.Proofs.Ytpbnfnaebdmagaa.PX Go.Proofs.YtpbnfnaebdmagaaW.PrintWords Go.Proofs.YtpbnfnaebdmagaaW.PrintLast Go.Proofs.YtpbnfnaebdmagaaW.PrintMore
theorem cuts_after (x : Vs.V) (hw : Wf x) (hs : (putV x 0).1.size ≤ 1700000) (h : (putV x 0).2 = 0) (a1 : Int) (a2 : ByteArray) (h2 : a2.size ≤ 140737488351232) (k : Nat) : precinctlaw02_PackCuts.j0 (k + 1) a1 a2 (putV x 0).1 0 false = some true := by
  have hv := fun R => val_back x 0 20 (by omega) (by omega) (by omega) hw h ⟨#[]⟩ R
  have hpos := put_some_size x 0 h
  generalize hb : (putV x 0).1 = b at hv hs hpos ⊢
  have e0 : ∀ R : ByteArray, (⟨#[]⟩ : ByteArray) ++ (b ++ R) = b ++ R := fun R => ByteArray.empty_append
  have z0 : ((⟨#[]⟩ : ByteArray).size : Int) = 0 := rfl
  have hv' : ∀ R : ByteArray, valR mk no 20 (b ++ R) 0 0 = some (0, norm x, (b.size : Int)) := fun R => by
    have := hv R
    rw [e0, z0, Int.zero_add] at this
    exact this
  have hn0 : 0 ≤ mx 0 a1 % (b.size : Int) := Int.emod_nonneg _ (by omega)
  have hn1 : mx 0 a1 % (b.size : Int) < b.size := Int.emod_lt_of_pos _ (by omega)
  simp only [precinctlaw02_PackCuts.j0, Bool.false_eq_true, if_false]
  rw [if_neg (by omega), if_pos hn0, if_pos (by omega)]
  generalize hm : (mx 0 a1 % (b.size : Int)).toNat = n
  have hn : n < b.size := by omega
  have sz : (b.extract 0 n).size = n := by simp [ByteArray.size_extract]; omega
  have hcut := (val_cut 20 (b.extract 0 n) (b.extract n b.size) 0 0 (norm x) b.size (by omega) (by omega) (by rw [extract_split b n (by omega)]; have := hv' ⟨#[]⟩; rw [show b ++ (⟨#[]⟩ : ByteArray) = b from ByteArray.append_empty] at this; exact this)).2 (by omega)
  rw [get_is _ (by omega) _ _ _ hcut, if_neg (by decide), Option.bind_some, if_pos (by omega)]
  have zz : (b ++ a2).size = b.size + a2.size := size_app b a2
  rw [get_is (b ++ a2) (by omega) _ _ _ (hv' a2), if_pos rfl]
  by_cases c : a2.toList = []
  · have c2 : a2.size = 0 := by
      rw [toList_data] at c
      have : a2.data.toList.length = 0 := by rw [c]; rfl
      have h3 : a2.data.toList.length = a2.size := Array.length_toList
      omega
    rw [if_neg (by omega), Option.bind_some]
    dsimp only
    rw [if_pos rfl, if_pos c, if_pos rfl]
  · have c2 : 0 < a2.size := by
      rcases Nat.eq_zero_or_pos a2.size with h3 | h3
      · exfalso
        apply c
        rw [toList_data]
        have : a2.data.toList.length = a2.size := Array.length_toList
        exact List.eq_nil_of_length_eq_zero (by omega)
      · exact h3
    rw [if_pos (by omega), Option.bind_some]
    dsimp only
    rw [if_pos rfl, if_neg c]
    rfl
theorem PackCuts (l0 : List S56) (a1 : Int) (a2 : ByteArray) (h : ∀ x ∈ l0, (Lit.int .i64 x.f0).wf = true ∧ (Lit.int .i64 x.f1).wf = true ∧ x.f2.size ≤ maxLen ∧ (Lit.int .i64 x.f3).wf = true) (hl : l0.length ≤ maxLen) (_ : (Lit.int .i64 a1).wf = true) (h2 : a2.size ≤ 140737488351232) : ∃ k, precinctlaw02_PackCuts.f k l0 a1 a2 = some true := by
  obtain ⟨k0, hk0⟩ := Wk.wakes
  have hw : Wf (built l0) := built_wf l0 (fun x hx => wf_i64 (h x hx).2.1)
  obtain ⟨K1, h1⟩ := packPut_some (built l0) hw (built_size l0 0)
  have hs : (putV (built l0) 0).1.size ≤ 1700000 := by
    have h1 := size_putV (built l0) 0
    have h2 := built_nodes l0
    omega
  refine ⟨max k0 K1 + 1, ?_⟩
  have e1 := h1 (max k0 K1 + 1) (by omega)
  have e0 := Vs.up_le (fun k => precinctlaw02_wakes.mono k) (show k0 ≤ max k0 K1 by omega) hk0
  have e0' := Vs.up_le (fun k => precinctlaw02_wakes.mono k) (show k0 ≤ max k0 K1 + 1 by omega) hk0
  have ha := cuts_after (built l0) hw hs
  generalize max k0 K1 = q at e0 e0' e1 ⊢
  unfold precinctlaw02_PackCuts.f precinctlaw02_build.f
  simp only [Option.bind_some]
  rw [e1, Option.bind_some, e0', Option.bind_some, if_pos rfl]
  dsimp only
  by_cases c : (putV (built l0) 0).2 = 0
  · have hpos := put_some_size (built l0) 0 c
    have hne : ((putV (built l0) 0).1.toList == ([] : List UInt8)) = false := by
      rw [beq_eq_false_iff_ne]
      intro hn
      rw [toList_data] at hn
      have h3 : (putV (built l0) 0).1.data.toList.length = (putV (built l0) 0).1.size := Array.length_toList
      rw [hn] at h3
      simp at h3
      omega
    rw [if_pos c, if_pos c, c, hne]
    exact ha c a1 a2 h2 q
  · rw [if_neg c]
    simp only [precinctlaw02_PackCuts.j0, if_true]
    rw [e0, Option.bind_some, if_pos rfl]
    simpa using c
end Go.Proofs.Ytpbnfnaebdmagaa.Pure
