/-
  pack's bytes that the document fixes.
  Which values are alike: each is like itself; the document's answer is the same.
-/
import Derived.Test.YtpbnfnaebdmagaaPXx4
import Derived.KernelRfl
import Derived.Test.YtpbnfnaebdmagaaPXx6
import Derived.Test.YtpbnfnaebdmagaaVa
namespace Go.Proofs.Ytpbnfnaebdmagaa.Wk
set_option linter.unusedVariables false
set_option linter.unusedSimpArgs false
open Go Go.RowKit Go.Proofs.Ytpbnfnaebdmagaa.PX Go.Proofs.YtpbnfnaebdmagaaW.PrintWords Go.Proofs.YtpbnfnaebdmagaaW.PrintLast Go.Proofs.YtpbnfnaebdmagaaW.PrintMore
theorem wakes : ∃ k, precinctlaw02_wakes.f k = some true := ⟨24, by kernel_rfl⟩
end Go.Proofs.Ytpbnfnaebdmagaa.Wk
namespace Go.Proofs.Ytpbnfnaebdmagaa.Eq
set_option linter.unusedVariables false
set_option linter.unusedSimpArgs false
open Go Go.RowKit Go.Proofs.Ytpbnfnaebdmagaa.Plain Go.Proofs.Ytpbnfnaebdmagaa.Vs Go.Proofs.Ytpbnfnaebdmagaa.PX Go.Proofs.YtpbnfnaebdmagaaW.PrintWords Go.Proofs.YtpbnfnaebdmagaaW.PrintLast Go.Proofs.YtpbnfnaebdmagaaW.PrintMore
theorem eqVs_refl : ∀ l : List V, (∀ x ∈ l, eqV x x = true) → eqVs l l = true
  | [], _ => rfl
  | x :: l, h => by
    simp only [eqVs]
    rw [if_pos (h x (by simp))]
    exact eqVs_refl l (fun y hy => h y (by simp [hy]))
theorem eqV_refl : ∀ x : V, eqV x x = true := by
  refine V_ind (fun a b c l ih => ?_)
  simp only [eqV, if_true]
  split
  · simp
  · split
    · simp
    · split
      · exact eqVs_refl l ih
      · rfl
theorem eqVs_symm : ∀ l m : List V, (∀ x ∈ l, ∀ y, eqV x y = eqV y x) → l.length = m.length → eqVs l m = eqVs m l
  | [], [], _, _ => rfl
  | [], _ :: _, _, h => by simp at h
  | _ :: _, [], _, h => by simp at h
  | x :: l, y :: m, h, hl => by
    simp only [eqVs]
    rw [h x (by simp) y, eqVs_symm l m (fun z hz => h z (by simp [hz])) (by simpa using hl)]
theorem eqV_symm : ∀ x y : V, eqV x y = eqV y x := by
  refine V_ind (fun a b c l ih y => ?_)
  obtain ⟨a', b', c', m⟩ := y
  simp only [eqV]
  by_cases h : a = a'
  · subst h
    rw [if_pos rfl, if_pos rfl]
    split
    · rw [Bool.beq_comm]
    · split
      · rw [Bool.beq_comm]
      · split
        · by_cases hn : l.length = m.length
          · rw [if_pos hn, if_pos hn.symm]; exact eqVs_symm l m ih hn
          · rw [if_neg hn, if_neg (fun e => hn e.symm)]
        · rfl
  · rw [if_neg h, if_neg (fun e => h e.symm)]
theorem req_le {a b : Int} {c : ByteArray} {l : List W} {a' b' : Int} {c' : ByteArray} {m : List W} {K K' : Nat} (h : K ≤ K') {r} (e : precinctref02_Equal.f K a b c l a' b' c' m = some r) : precinctref02_Equal.f K' a b c l a' b' c' m = some r := up_le (fun k => precinctref02_Equal.mono a b c l a' b' c' m k) h e
abbrev Req (K : Nat) (x y : V) : Prop := precinctref02_Equal.f K (toW x).f0 (toW x).f1 (toW x).f2 (toW x).f3 (toW y).f0 (toW y).f1 (toW y).f2 (toW y).f3 = some (eqV x y)
theorem rdW (l : List V) (i : Nat) (h : i < l.length) : rd_T29 (toWs l) (i : Int) = toW l[i] := by
  unfold rd_T29
  rw [toWs_map, Int.toNat_natCast]
  simp only [List.getD_eq_getElem?_getD, List.getElem?_map, List.getElem?_eq_getElem h, Option.map_some, Option.getD_some]
theorem req_loop (l m : List V) (hl : l.length ≤ 1000) (hm : l.length = m.length) (x0 x1 y0 y1 : Int) (x2 y2 : ByteArray) (K : Nat) (hK : ∀ p ∈ l.zip m, Req K p.1 p.2) :
    ∀ (n i : Nat), i + n = l.length → precinctref02_Equal.l0 (K + n + 1) i x0 x1 x2 (toWs l) y0 y1 y2 (toWs m) = some (eqVs (l.drop i) (m.drop i))
  | 0, i, hi => by
    have hw : (toWs l).length = l.length := by rw [toWs_map, List.length_map]
    simp only [precinctref02_Equal.l0]
    rw [if_neg (by omega), List.drop_eq_nil_of_le (show l.length ≤ i by omega)]
    rfl
  | n + 1, i, hi => by
    have hw : (toWs l).length = l.length := by rw [toWs_map, List.length_map]
    have hw2 : (toWs m).length = m.length := by rw [toWs_map, List.length_map]
    have h1 : i < l.length := by omega
    have h2 : i < m.length := by omega
    have e1 : wrap64 ((i : Int) + 1) = ((i + 1 : Nat) : Int) := by unfold wrap64; omega
    have hmem : (l[i], m[i]) ∈ l.zip m := by
      rw [List.mem_iff_getElem]
      exact ⟨i, by simp; omega, by simp⟩
    rw [List.drop_eq_getElem_cons h1, List.drop_eq_getElem_cons h2]
    rw [show K + (n + 1) + 1 = (K + n + 1) + 1 by omega]
    generalize hq : K + n + 1 = q
    simp only [precinctref02_Equal.l0]
    rw [if_pos (by omega), if_pos (by omega), if_pos (by omega), rdW l i h1, rdW m i h2, req_le (show K ≤ q by omega) (hK _ hmem), Option.bind_some, e1, ← hq, req_loop l m hl hm x0 x1 y0 y1 x2 y2 K hK n (i + 1) (by omega)]
    simp only [eqVs]
    cases eqV l[i] m[i] <;> rfl
theorem req_some : ∀ x : V, Small x → ∀ y : V, ∃ K, Req K x y := by
  refine V_ind (fun a b c l ih hs y => ?_)
  obtain ⟨a', b', c', m⟩ := y
  rw [Small_eq] at hs
  have hwl : (toWs l).length = l.length := by rw [toWs_map, List.length_map]
  have hwm : (toWs m).length = m.length := by rw [toWs_map, List.length_map]
  have hT : toW ⟨a, b, c, l⟩ = ⟨a, b, c, toWs l⟩ := by simp only [toW]
  have hT' : toW ⟨a', b', c', m⟩ = ⟨a', b', c', toWs m⟩ := by simp only [toW]
  simp only [Req]
  rw [hT, hT']
  show ∃ K, precinctref02_Equal.f K a b c (toWs l) a' b' c' (toWs m) = some (eqV ⟨a, b, c, l⟩ ⟨a', b', c', m⟩)
  obtain ⟨K, hK⟩ := up_all (Q := fun K (p : V × V) => Req K p.1 p.2) (fun K K' p h e => req_le h e) (l.zip m) (fun p hp => ih p.1 (List.of_mem_zip hp).1 (hs.2 p.1 (List.of_mem_zip hp).1) p.2)
  refine ⟨K + l.length + 1 + 1, ?_⟩
  generalize hq : K + l.length + 1 = q
  simp only [precinctref02_Equal.f, eqV]
  by_cases h : a = a'
  · rw [if_pos h, if_pos h]
    by_cases h0 : a = 0
    · rw [if_pos h0, if_pos h0]
    by_cases h1 : a = 1
    · rw [if_neg h0, if_neg h0, if_pos h1, if_pos h1]
    by_cases h2 : a = 2
    · rw [if_neg h0, if_neg h0, if_neg h1, if_neg h1, if_pos h2, if_pos h2]
      by_cases hn : l.length = m.length
      · rw [if_pos (by omega), if_pos hn, ← hq]
        have := req_loop l m hs.1 hn a b a' b' c c' K hK l.length 0 (by omega)
        rw [List.drop_zero, List.drop_zero] at this
        exact this
      · rw [if_neg (by omega), if_neg hn]
    · rw [if_neg h0, if_neg h0, if_neg h1, if_neg h1, if_neg h2, if_neg h2]
  · rw [if_neg h, if_neg h]
end Go.Proofs.Ytpbnfnaebdmagaa.Eq
