/-
  OpBack: requests and answers are read back from their bytes; bytes that are read are just theirs.
-/
import Derived.Test.YtjicfkmpgogppaaPOx29
import Derived.Test.YtjicfkmpgogppaaOpRound
import Derived.Test.YtjicfkmpgogppaaPv
import Derived.Test.YtjicfkmpgogppaaWk
namespace Go.Proofs.Ytjicfkmpgogppaa.Pure
set_option linter.unusedVariables false
set_option linter.unusedSimpArgs false
open Go Go.RowKit Go.Proofs.Ytjicfkmpgogppaa.Plain Go.Proofs.Ytjicfkmpgogppaa.Vs Go.Proofs.Ytjicfkmpgogppaa.Pv Go.Proofs.Ytjicfkmpgogppaa.Bu Go.Proofs.Ytjicfkmpgogppaa.Co Go.Proofs.Ytjicfkmpgogppaa.Op Go.Proofs.Ytjicfkmpgogppaa.PO Go.Proofs.YtjicfkmpgogppaaW.PrintWords Go.Proofs.YtjicfkmpgogppaaW.PrintLast Go.Proofs.YtjicfkmpgogppaaW.PrintMore
theorem told_after (s : ByteArray) (hs : s.size ≤ 140737488351232) : ∃ (c : Int) (v : Vs.V) (e : Int), op_Told.f s = some (c, v.f0, v.f1, v.f2, v.f3, e) ∧ (e = 0 → ∃ K, ∀ k, K ≤ k → op_Answer_Bytes.f k c v.f0 v.f1 v.f2 v.f3 = some s) := by
  obtain ⟨y, e, hg, hb, sm⟩ := get_back s (by omega)
  refine ⟨_, _, _, opTold_is s y e hg, fun h0 => ?_⟩
  by_cases he : e = 0
  · obtain ⟨t0, t1, t2, t3⟩ := told_back (hb he) he h0
    obtain ⟨K, hK⟩ := opBytes_some (c := (toldR y e).1) (x := (toldR y e).2.1) (by omega) t2 (by rw [t3]; show s.size ≤ _; omega)
    refine ⟨K, fun k hk => ?_⟩
    rw [hK k hk]
    unfold ansB
    rw [t3, if_pos rfl]
  · exfalso
    unfold toldR at h0
    rw [if_neg he] at h0
    exact he h0
theorem get_after (s : ByteArray) (hs : s.size ≤ 140737488351232) : ∃ (t : ByteArray) (o : Int) (l : List Vs.V) (e : Int), (∀ k, op_Get.f (k + 1) s = some (t, o, l, e)) ∧ (e = 0 → ∃ K, ∀ k, K ≤ k → op_Put.f k t o l = some (s, 0)) := by
  by_cases hz : (s.size : Int) > 4096
  · refine ⟨⟨#[]⟩, 0, [], 5, fun k => ?_, fun h => absurd h (by decide)⟩
    unfold op_Get.f
    rw [if_pos hz]
  obtain ⟨y, e, hg, hb, sm⟩ := get_back s (by omega)
  refine ⟨(reqR y e).1, (reqR y e).2.1, (reqR y e).2.2.1, (reqR y e).2.2.2, fun k => opGet_is s y e hg hz k, fun h0 => ?_⟩
  by_cases he : e = 0
  · obtain ⟨t0, t1, t2, t3⟩ := req_back (hb he) he h0
    have hl := (small_req sm e).1
    obtain ⟨K, hK⟩ := opPut_some (s := (reqR y e).1) (o := (reqR y e).2.1) (l := (reqR y e).2.2.1) (by omega) t2 (by omega) (by rw [t3]; show s.size ≤ _; omega)
    refine ⟨K, fun k hk => ?_⟩
    rw [hK k hk]
    unfold reqB
    rw [t3, if_pos rfl, if_neg hz]
  · exfalso
    unfold reqR at h0
    rw [if_neg he] at h0
    exact he h0
theorem back_j1 (s : ByteArray) (hs : s.size ≤ 140737488351232) : ∃ K, ∀ k, K ≤ k → precinctlaw18_OpBack.j1 k s = some true := by
  obtain ⟨c, v, e, ht, hv⟩ := told_after s hs
  obtain ⟨t, o, l, f, hg, hp⟩ := get_after s hs
  obtain ⟨K1, h1⟩ : ∃ K, e = 0 → ∀ k, K ≤ k → op_Answer_Bytes.f k c v.f0 v.f1 v.f2 v.f3 = some s := by
    by_cases h : e = 0
    · obtain ⟨K, hK⟩ := hv h; exact ⟨K, fun _ => hK⟩
    · exact ⟨0, fun h' => absurd h' h⟩
  obtain ⟨K2, h2⟩ : ∃ K, f = 0 → ∀ k, K ≤ k → op_Put.f k t o l = some (s, 0) := by
    by_cases h : f = 0
    · obtain ⟨K, hK⟩ := hp h; exact ⟨K, fun _ => hK⟩
    · exact ⟨0, fun h' => absurd h' h⟩
  refine ⟨max K1 K2 + 3, fun k hk => ?_⟩
  obtain ⟨m, rfl⟩ : ∃ m, k = m + 3 := ⟨k - 3, by omega⟩
  simp only [precinctlaw18_OpBack.j1, precinctlaw18_OpBack.j2]
  rw [hg (m + 1), Option.bind_some]
  dsimp only
  by_cases cf : f = 0
  · rw [if_pos cf, h2 cf (m + 2) (by omega), Option.bind_some]
    dsimp only
    have hn : (s.toList != s.toList) = false := by simp
    rw [if_pos rfl, hn, if_neg (by decide), ht, Option.bind_some]
    dsimp only
    by_cases ce : e = 0
    · rw [if_pos ce, h1 ce (m + 1) (by omega), Option.bind_some]
      simp
    · rw [if_neg ce]
  · rw [if_neg cf, ht, Option.bind_some]
    dsimp only
    by_cases ce : e = 0
    · rw [if_pos ce, h1 ce (m + 2) (by omega), Option.bind_some]
      simp
    · rw [if_neg ce]
theorem back_ops (s t : ByteArray) (b : Vs.V) (hw : ∀ x ∈ b.f3, Wf x) (hn : nodess b.f3 ≤ 400) (hl : b.f3.length ≤ 1000) (R : Option Bool) (K : Nat)
    (hput : ∀ i : Nat, i < 10 → ∀ k, K ≤ k → op_Put.f k t i b.f3 = some (reqB t i b.f3))
    (hend : ∀ k, K ≤ k → precinctlaw18_OpBack.l0 (k + 1) s t 10 b.f0 b.f1 b.f2 b.f3 = some true) :
    ∀ d i : Nat, i + d = 10 → precinctlaw18_OpBack.l0 (K + d + 2) s t i b.f0 b.f1 b.f2 b.f3 = some true
  | 0, i, h => by
    obtain rfl : i = 10 := by omega
    exact hend (K + 1) (by omega)
  | d + 1, i, h => by
    have ih := back_ops s t b hw hn hl R K hput hend d (i + 1) (by omega)
    have e1 : wrap64 ((i : Int) + 1) = ((i + 1 : Nat) : Int) := by unfold wrap64; omega
    rw [show K + (d + 1) + 2 = (K + d + 2) + 1 by omega, precinctlaw18_OpBack.l0]
    rw [if_pos (by omega), hput i (by omega) _ (by omega), Option.bind_some, e1]
    by_cases c : (reqB t i b.f3).2 = 0
    · rw [if_pos c]
      by_cases c1 : (putV (reqV t i b.f3) 0).2 = 0
      · by_cases c2 : ((putV (reqV t i b.f3) 0).1.size : Int) > 4096
        · exfalso
          unfold reqB at c
          rw [if_pos c1, if_pos c2] at c
          exact absurd c (by decide)
        have hB : reqB t i b.f3 = ((putV (reqV t i b.f3) 0).1, 0) := by
          unfold reqB
          rw [if_pos c1, if_neg c2]
        rw [hB]
        dsimp only
        have hg := get_put_val (reqV t i b.f3) (reqV_wf (by omega) hw) c1 (by omega)
        rw [norm_req] at hg
        rw [opGet_is _ _ 0 hg c2 (K + d + 1), Option.bind_some, reqR_reqV t i _ (by omega) (by omega)]
        dsimp only
        have ok := lists_ok (b := 0) (c := ⟨#[]⟩) (d := 0) c1
        have okl := ok.2 ⟨2, 0, ⟨#[]⟩, b.f3⟩ (by simp)
        rw [if_pos rfl, if_pos rfl, if_pos rfl, all_some (by rw [norms_len]; omega), Option.bind_some, all_some (by omega), Option.bind_some]
        dsimp only
        rw [eqL b.f3 _ okl, Option.bind_some, if_pos rfl]
        exact ih
      · exfalso
        unfold reqB at c
        rw [if_neg c1] at c
        exact c1 c
    · rw [if_neg c]
      exact ih
theorem OpBack (a0 : ByteArray) (a1 : ByteArray) (l2 : List S147) (h0 : a0.size ≤ 140737488351232) (_h1 : a1.size ≤ 140737488351232) (h : ∀ x ∈ l2, (Lit.int .i64 x.f0).wf = true ∧ (Lit.int .i64 x.f1).wf = true ∧ x.f2.size ≤ maxLen ∧ (Lit.int .i64 x.f3).wf = true) (_hl : l2.length ≤ maxLen) : ∃ k, precinctlaw18_OpBack.f k a0 a1 l2 = some true := by
  obtain ⟨k0, hk0⟩ := Wk.wakes
  obtain ⟨K1, hj⟩ := back_j1 a0 h0
  have hwb := built_wf l2 (fun x hx => wf_i64 (h x hx).2.1)
  have hw := built_list_wf l2 (fun x hx => wf_i64 (h x hx).2.1)
  have hn := built_list_nodes l2
  have hnb := built_nodes l2
  have hlen := built_list_len l2
  have hps := size_putV (built l2) 0
  obtain ⟨K2, hp⟩ := up_to (Q := fun i k => op_Put.f k a1 i (built l2).f3 = some (reqB a1 i (built l2).f3)) 10 (fun i hi => by
    have hs := reqV_size (s := a1) (o := i) hn
    exact opPut_some (s := a1) (o := i) (by omega) hw (by omega) (by omega))
  have has := ansV_size (c := 24) hnb
  obtain ⟨K3, ha⟩ := opBytes_some (c := 24) (by omega) hwb (by omega)
  obtain ⟨K, hK⟩ : ∃ K, K = max k0 (max K1 (max K2 K3)) := ⟨_, rfl⟩
  have hend : ∀ k, K ≤ k → precinctlaw18_OpBack.l0 (k + 1) a0 a1 10 (built l2).f0 (built l2).f1 (built l2).f2 (built l2).f3 = some true := by
    intro k hk
    simp only [precinctlaw18_OpBack.l0]
    rw [if_neg (by decide), ha k (by omega), Option.bind_some]
    by_cases c : (ansB 24 (built l2)).toList = []
    · rw [if_pos c]
      exact hj k (by omega)
    rw [if_neg c]
    by_cases c1 : (putV (ansV 24 (built l2)) 0).2 = 0
    · have hB : ansB 24 (built l2) = (putV (ansV 24 (built l2)) 0).1 := by unfold ansB; rw [if_pos c1]
      rw [hB]
      have hg := get_put_val (ansV 24 (built l2)) (ansV_wf (by omega) hwb) c1 (by omega)
      rw [norm_ans] at hg
      have ht := opTold_is _ _ 0 hg
      rw [toldR_ansV 24 _ (by omega) (by omega)] at ht
      rw [ht, Option.bind_some]
      dsimp only
      have ok := (lists_ok (b := 0) (c := ⟨#[]⟩) (d := 0) c1).2 (built l2) (by simp)
      rw [if_pos rfl, if_pos rfl, eqX (built l2) _ ok, Option.bind_some, if_pos rfl]
      exact hj k (by omega)
    · exfalso
      unfold ansB at c
      rw [if_neg c1] at c
      exact c (by simp)
  have hall := back_ops a0 a1 (built l2) hw hn hlen none K (fun i hi k hk => hp i hi k (by omega)) hend 10 0 (by omega)
  refine ⟨K + 12, ?_⟩
  have f0 := Vs.up_le (fun k => precinctlaw18_wakes.mono k) (show k0 ≤ K + 12 by omega) hk0
  unfold precinctlaw18_OpBack.f precinctlaw18_build.f
  simp only [Option.bind_some]
  rw [f0, Option.bind_some, if_pos rfl]
  exact hall
end Go.Proofs.Ytjicfkmpgogppaa.Pure
