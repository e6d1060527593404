/-
  PackBack: a value is read back from its bytes, alike; bytes that are read as a value are just its bytes.
-/
import Derived.Test.YtpbnfnaebdmagaaPXx20
import Derived.Test.YtpbnfnaebdmagaaPv
import Derived.Test.YtpbnfnaebdmagaaWk
import Derived.Test.YtpbnfnaebdmagaaGetIs
import Derived.Test.YtpbnfnaebdmagaaBack
namespace Go.Proofs.Ytpbnfnaebdmagaa.Pure
set_option linter.unusedVariables false
set_option linter.unusedSimpArgs false
open Go Go.RowKit Go.Proofs.Ytpbnfnaebdmagaa.Plain Go.Proofs.Ytpbnfnaebdmagaa.Vr Go.Proofs.Ytpbnfnaebdmagaa.Co Go.Proofs.Ytpbnfnaebdmagaa.Pv Go.Proofs.Ytpbnfnaebdmagaa.Bu Go.Proofs.Ytpbnfnaebdmagaa.PX Go.Proofs.YtpbnfnaebdmagaaW.PrintWords Go.Proofs.YtpbnfnaebdmagaaW.PrintLast Go.Proofs.YtpbnfnaebdmagaaW.PrintMore
theorem back_after (s : ByteArray) (hs : s.size ≤ 140737488351232) : ∃ K, ∀ k, K ≤ k → precinctlaw02_PackBack.j0 k s = some true := by
  obtain ⟨⟨e, x, q⟩, hr⟩ := Rr.valR_total mk no s 20 0 0 (by omega) (by omega) (by omega)
  have hg := get_is s (by omega) e x q hr
  have hz : pack_Equal.f 0 0 (⟨#[]⟩ : ByteArray) [] 0 0 (⟨#[]⟩ : ByteArray) [] = some true := by unfold pack_Equal.f; simp [Eq.eqV]
  by_cases c : e = 0
  · subst c
    obtain ⟨g1, g2, g3, g4⟩ := vals_back 20 s 0 0 x q (by omega) hr
    by_cases c2 : q < (s.size : Int)
    · refine ⟨1, fun k hk => ?_⟩
      obtain ⟨m, rfl⟩ : ∃ m, k = m + 1 := ⟨k - 1, by omega⟩
      simp only [precinctlaw02_PackBack.j0]
      rw [hg, if_pos rfl, if_pos c2, Option.bind_some]
      dsimp only
      rw [if_neg (by decide), hz]
      rfl
    · have hq : q = s.size := by omega
      have e0 : s.extract (0 : Int).toNat q.toNat = s := by
        rw [hq, Int.toNat_natCast]
        exact ByteArray.extract_zero_size
      rw [e0] at g3
      obtain ⟨K, hK⟩ := packPut_some x g4 (by rw [g3]; show s.size ≤ _; omega)
      rw [g3] at hK
      refine ⟨K + 1, fun k hk => ?_⟩
      obtain ⟨m, rfl⟩ : ∃ m, k = m + 1 := ⟨k - 1, by omega⟩
      simp only [precinctlaw02_PackBack.j0]
      rw [hg, if_pos rfl, if_neg c2, Option.bind_some]
      dsimp only
      rw [if_pos rfl, hK m (by omega), Option.bind_some]
      simp
  · refine ⟨1, fun k hk => ?_⟩
    obtain ⟨m, rfl⟩ : ∃ m, k = m + 1 := ⟨k - 1, by omega⟩
    simp only [precinctlaw02_PackBack.j0]
    rw [hg, if_neg c, Option.bind_some]
    dsimp only
    rw [if_neg c, hz]
    rfl
theorem PackBack (l0 : List S56) (a1 : ByteArray) (h : ∀ x ∈ l0, (Lit.int .i64 x.f0).wf = true ∧ (Lit.int .i64 x.f1).wf = true ∧ x.f2.size ≤ maxLen ∧ (Lit.int .i64 x.f3).wf = true) (hl : l0.length ≤ maxLen) (h1 : a1.size ≤ 140737488351232) : ∃ k, precinctlaw02_PackBack.f k l0 a1 = some true := by
  obtain ⟨k0, hk0⟩ := Wk.wakes
  have hw : Wf (built l0) := built_wf l0 (fun x hx => wf_i64 (h x hx).2.1)
  obtain ⟨K1, hp⟩ := packPut_some (built l0) hw (built_size l0 0)
  obtain ⟨K2, hb⟩ := back_after a1 h1
  have hs : (putV (built l0) 0).1.size ≤ 1700000 := by
    have h1 := size_putV (built l0) 0
    have h2 := built_nodes l0
    omega
  refine ⟨max k0 (max K1 K2), ?_⟩
  have e1 := hp (max k0 (max K1 K2)) (by omega)
  have e2 := hb (max k0 (max K1 K2)) (by omega)
  have e0 := Vs.up_le (fun k => precinctlaw02_wakes.mono k) (show k0 ≤ max k0 (max K1 K2) by omega) hk0
  generalize max k0 (max K1 K2) = q at e0 e1 e2 ⊢
  unfold precinctlaw02_PackBack.f precinctlaw02_build.f
  simp only [Option.bind_some]
  rw [e1, Option.bind_some, e0, Option.bind_some, if_pos rfl]
  dsimp only
  by_cases c : (putV (built l0) 0).2 = 0
  · rw [if_pos c, if_pos c]
    have hv := val_back (built l0) 0 20 (by omega) (by omega) (by omega) hw c ⟨#[]⟩ ⟨#[]⟩
    have z0 : ((⟨#[]⟩ : ByteArray).size : Int) = 0 := rfl
    rw [show (⟨#[]⟩ : ByteArray) ++ ((putV (built l0) 0).1 ++ (⟨#[]⟩ : ByteArray)) = (putV (built l0) 0).1 from (ByteArray.empty_append).trans ByteArray.append_empty, z0, Int.zero_add] at hv
    rw [get_is _ (by omega) _ _ _ hv, if_pos rfl, if_neg (by omega), Option.bind_some]
    dsimp only
    rw [if_pos rfl]
    have he := eq_norm (built l0) 0 c
    unfold pack_Equal.f
    have ex : (⟨(built l0).f0, (built l0).f1, (built l0).f2, (built l0).f3⟩ : Vs.V) = built l0 := by cases built l0; rfl
    have ey : (⟨(norm (built l0)).f0, (norm (built l0)).f1, (norm (built l0)).f2, (norm (built l0)).f3⟩ : Vs.V) = norm (built l0) := by cases norm (built l0); rfl
    rw [ex, ey, he, Option.bind_some, if_pos rfl]
    exact e2
  · rw [if_neg c]
    exact e2
end Go.Proofs.Ytpbnfnaebdmagaa.Pure
