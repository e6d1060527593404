/-
  What is read as a request, and as an answer: by the document.
-/
import Derived.Test.YtjicfkmpgogppaaPOx21
import Derived.Test.YtjicfkmpgogppaaPOx23
import Derived.Test.YtjicfkmpgogppaaPOx25
import Derived.Test.YtjicfkmpgogppaaRf
import Derived.Test.YtjicfkmpgogppaaOpGet
namespace Go.Proofs.Ytjicfkmpgogppaa.Op
set_option linter.unusedVariables false
set_option linter.unusedSimpArgs false
open Go Go.RowKit Go.Proofs.Ytjicfkmpgogppaa.Plain Go.Proofs.Ytjicfkmpgogppaa.Words Go.Proofs.Ytjicfkmpgogppaa.Vr Go.Proofs.Ytjicfkmpgogppaa.Vs Go.Proofs.Ytjicfkmpgogppaa.Rr Go.Proofs.Ytjicfkmpgogppaa.PO Go.Proofs.YtjicfkmpgogppaaW.PrintWords Go.Proofs.YtjicfkmpgogppaaW.PrintLast Go.Proofs.YtjicfkmpgogppaaW.PrintMore
theorem both_get (s : ByteArray) (hs : s.size ≤ 140737488351232 * 4) : ∃ (y : Vs.V) (e : Int) (K : Nat), pack_Get.f s = some (y.f0, y.f1, y.f2, y.f3, e) ∧ (∀ k, K ≤ k → precinctref02_Get.f k s = some ((toW y).f0, (toW y).f1, (toW y).f2, (toW y).f3, e)) ∧ Small y := by
  obtain ⟨r, hr⟩ := valR_total mkV noV s 20 0 0 (by omega) (by omega) (by omega)
  have hw : valR mkW noW 20 s 0 0 = some (r.1, toW r.2.1, r.2.2) := by rw [valR_to, hr]; rfl
  obtain ⟨K, hK⟩ := rread_good hs 20 0 0 _ (by omega) (by omega) (by omega) (by omega) hw
  have sm := valR_small s 20 0 0 r hr
  have hg := get_one s hs r.1 r.2.1 r.2.2 hr
  have hG : ∀ k, K ≤ k → precinctref02_Get.f k s = if r.1 = 0 then (if r.2.2 < (s.size : Int) then some (0, 0, ⟨#[]⟩, [], 4) else some ((toW r.2.1).f0, (toW r.2.1).f1, (toW r.2.1).f2, (toW r.2.1).f3, 0)) else some (0, 0, ⟨#[]⟩, [], r.1) := by
    intro k hk
    unfold precinctref02_Get.f
    rw [rread_le hk hK]
    rfl
  have e0 : toW noV = (⟨0, 0, ⟨#[]⟩, []⟩ : W) := by simp [toW, toWs]
  by_cases c : r.1 = 0
  · by_cases c2 : r.2.2 < (s.size : Int)
    · refine ⟨noV, 4, K, ?_, fun k hk => ?_, small_no⟩
      · rw [hg, if_pos c, if_pos c2]
      · rw [hG k hk, if_pos c, if_pos c2, e0]
    · refine ⟨r.2.1, 0, K, ?_, fun k hk => ?_, sm⟩
      · rw [hg, if_pos c, if_neg c2]
      · rw [hG k hk, if_pos c, if_neg c2]
  · refine ⟨noV, r.1, K, ?_, fun k hk => ?_, small_no⟩
    · rw [hg, if_neg c]
    · rw [hG k hk, if_neg c, e0]
theorem refGet18_is (s : ByteArray) (y : Vs.V) (e : Int) (m : Nat) (h : precinctref02_Get.f (m + 2) s = some ((toW y).f0, (toW y).f1, (toW y).f2, (toW y).f3, e)) (hz : ¬ (s.size : Int) > 4096) : precinctref18_Get.f (m + 2) s = some ((reqR y e).1, (reqR y e).2.1, toWs (reqR y e).2.2.1, (reqR y e).2.2.2) := by
  obtain ⟨a, b, c, l⟩ := y
  simp only [toW] at h
  have N1 : toWs ([] : List Vs.V) = [] := by simp only [toWs]
  unfold precinctref18_Get.f
  rw [if_neg hz, h, Option.bind_some]
  dsimp only
  by_cases ce : e = 0
  · subst ce
    refine ip rfl ?_
    by_cases ca : a = 2
    · subst ca
      refine ip rfl ?_
      have hl : ((toWs l).length : Int) = (l.length : Int) := by rw [toWs_map, List.length_map]
      by_cases cl : (l.length : Int) = 3
      · have hn : (((toWs l).length : Int) != 3) = false := by simp [hl, cl]
        rw [hn]
        obtain ⟨⟨p0, p1, p2, p3⟩, ⟨q0, q1, q2, q3⟩, ⟨r0, r1, r2, r3⟩, rfl⟩ := three l cl
        have T : toWs [⟨p0, p1, p2, p3⟩, ⟨q0, q1, q2, q3⟩, ⟨r0, r1, r2, r3⟩] = [⟨p0, p1, p2, toWs p3⟩, ⟨q0, q1, q2, toWs q3⟩, ⟨r0, r1, r2, toWs r3⟩] := by simp only [toWs, toW]
        rw [T, precinctref18_Get.j0]
        refine iq (by decide) (ip (by simp) ?_)
        by_cases cp : p0 = 1
        · subst cp
          refine ip rfl (ip (by simp) ?_)
          by_cases cq : q0 = 0
          · subst cq
            refine ip rfl (ip (by simp) ?_)
            by_cases cr : r0 = 2
            · subst cr
              rw [precinctref18_Get.j1]
              refine iq (show ¬ ((2 : Int) != 2) = true by decide) (ip (by simp) ?_)
              by_cases c5 : q1 < 0
              · refine ip c5 ?_
                rw [reqR_bad (fun h => Int.not_le.mpr c5 h.2.2.2.1), N1]
              refine iq c5 ?_
              by_cases c6 : q1 ≥ 10
              · refine ip c6 ?_
                rw [reqR_bad (fun h => Int.not_lt.mpr c6 h.2.2.2.2), N1]
              refine iq c6 (ip (by simp) (ip (by simp) ?_))
              rw [reqR_yes b c p1 p2 p3 q1 q2 q3 r1 r2 r3 (by omega) (by omega)]
              rfl
            · rw [precinctref18_Get.j1]
              refine ip (show (r0 != 2) = true by simp [cr]) ?_
              rw [reqR_bad (fun h => cr h.2.2.1), N1]
          · refine iq cq ?_
            rw [precinctref18_Get.j1, reqR_bad (fun h => cq h.2.1), N1]
            rfl
        · refine iq cp ?_
          rw [precinctref18_Get.j1, reqR_bad (fun h => cp h.1), N1]
          rfl
      · have hn : (((toWs l).length : Int) != 3) = true := by simp [hl, cl]
        rw [hn, precinctref18_Get.j0, reqR_no _ (fun h => cl h.2.1), N1]
        rfl
    · refine iq ca ?_
      rw [precinctref18_Get.j0, reqR_no _ (fun h => ca h.1), N1]
      rfl
  · refine iq ce ?_
    rw [reqR_err _ e ce, N1]
theorem refTold_is (s : ByteArray) (y : Vs.V) (e : Int) (m : Nat) (h : precinctref02_Get.f (m + 1) s = some ((toW y).f0, (toW y).f1, (toW y).f2, (toW y).f3, e)) : precinctref18_Told.f (m + 1) s = some ((toldR y e).1, (toW (toldR y e).2.1).f0, (toW (toldR y e).2.1).f1, (toW (toldR y e).2.1).f2, (toW (toldR y e).2.1).f3, (toldR y e).2.2) := by
  obtain ⟨a, b, c, l⟩ := y
  simp only [toW] at h
  have N1 : toW noV = ⟨0, 0, ⟨#[]⟩, []⟩ := by simp only [toW, toWs]
  unfold precinctref18_Told.f
  rw [h, Option.bind_some]
  dsimp only
  by_cases ce : e = 0
  · subst ce
    refine ip rfl ?_
    by_cases ca : a = 2
    · subst ca
      refine ip rfl ?_
      have hl : ((toWs l).length : Int) = (l.length : Int) := by rw [toWs_map, List.length_map]
      by_cases cl : (l.length : Int) = 2
      · have hn : (((toWs l).length : Int) != 2) = false := by simp [hl, cl]
        rw [hn]
        obtain ⟨⟨p0, p1, p2, p3⟩, ⟨q0, q1, q2, q3⟩, rfl⟩ := two l cl
        have T : toWs [⟨p0, p1, p2, p3⟩, ⟨q0, q1, q2, q3⟩] = [⟨p0, p1, p2, toWs p3⟩, ⟨q0, q1, q2, toWs q3⟩] := by simp only [toWs, toW]
        rw [T, precinctref18_Told.j0]
        refine iq (by decide) (ip (by simp) ?_)
        by_cases cp : p0 = 0
        · subst cp
          refine ip rfl ?_
          by_cases c5 : p1 < 0
          · refine ip c5 ?_
            rw [toldR_bad (fun h => Int.not_le.mpr c5 h.2.1), N1]
          refine iq c5 ?_
          by_cases c6 : p1 > 2147483647
          · refine ip c6 ?_
            rw [toldR_bad (fun h => Int.not_le.mpr c6 h.2.2), N1]
          refine iq c6 (ip (by simp) ?_)
          rw [toldR_yes b c p1 p2 p3 ⟨q0, q1, q2, q3⟩ (by omega) (by omega)]
          simp only [toW]
          rfl
        · refine iq cp ?_
          rw [toldR_bad (fun h => cp h.1), N1]
      · have hn : (((toWs l).length : Int) != 2) = true := by simp [hl, cl]
        rw [hn, precinctref18_Told.j0, toldR_no _ (fun h => cl h.2.1), N1]
        rfl
    · refine iq ca ?_
      rw [precinctref18_Told.j0, toldR_no _ (fun h => ca h.1), N1]
      rfl
  · refine iq ce ?_
    rw [toldR_err _ e ce, N1]
theorem sameList_loop (l : List Vs.V) (hl : l.length ≤ 1000) (K : Nat) (hK : ∀ x ∈ l, precinctlaw18_same.f K x.f0 x.f1 x.f2 x.f3 (toW x).f0 (toW x).f1 (toW x).f2 (toW x).f3 = some true) :
    ∀ (d : Nat) (i : Int), 0 ≤ i → i + d = l.length → precinctlaw18_sameList.l0 (K + d + 1) l (toWs l) l.length i = some true
  | 0, i, h0, h => by
    simp only [precinctlaw18_sameList.l0]
    rw [if_neg (by omega)]
  | d + 1, i, h0, h => by
    have h1 : i < l.length := by omega
    have hw : (toWs l).length = l.length := by rw [toWs_map, List.length_map]
    have ⟨hm, he⟩ := rdV l i h0 h1
    have e1 : wrap64 (i + 1) = i + 1 := by unfold wrap64; omega
    rw [show K + (d + 1) + 1 = (K + d + 1) + 1 by omega]
    simp only [precinctlaw18_sameList.l0]
    rw [if_pos h1, if_pos h0, if_pos h1, if_pos (by omega), he]
    have := up_le (fun k => precinctlaw18_same.mono _ _ _ _ _ _ _ _ k) (show K ≤ K + d + 1 by omega) (hK _ hm)
    rw [this, Option.bind_some, if_pos rfl, e1]
    exact sameList_loop l hl K hK d (i + 1) (by omega) (by omega)
theorem sameList_toWs (l : List Vs.V) (hl : l.length ≤ 1000) (hs : ∀ x ∈ l, Small x) : ∃ K, ∀ k, K ≤ k → precinctlaw18_sameList.f k l (toWs l) = some true := by
  obtain ⟨K, hK⟩ := up_all (Q := fun K x => precinctlaw18_same.f K x.f0 x.f1 x.f2 x.f3 (toW x).f0 (toW x).f1 (toW x).f2 (toW x).f3 = some true) (fun K K' x h e => up_le (fun k => precinctlaw18_same.mono _ _ _ _ _ _ _ _ k) h e) l (fun x hx => same_toW x (hs x hx))
  have hw : (toWs l).length = l.length := by rw [toWs_map, List.length_map]
  refine ⟨K + l.length + 1, fun k hk => ?_⟩
  refine up_le (fun k => precinctlaw18_sameList.mono _ _ k) hk ?_
  unfold precinctlaw18_sameList.f
  rw [if_pos (by omega)]
  exact sameList_loop l hl K hK l.length 0 (by omega) (by omega)
end Go.Proofs.Ytjicfkmpgogppaa.Op
