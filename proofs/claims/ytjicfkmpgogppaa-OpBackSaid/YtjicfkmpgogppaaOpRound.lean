/-
  Requests and answers, read back from their bytes; bytes that are read are just theirs.
-/
import Derived.Test.YtjicfkmpgogppaaPOx13
import Derived.Test.YtjicfkmpgogppaaPOx22
import Derived.Test.YtjicfkmpgogppaaPOx28
import Derived.Test.YtjicfkmpgogppaaPOx4
import Derived.Test.YtjicfkmpgogppaaPOx8
import Derived.Test.YtjicfkmpgogppaaOpPut
import Derived.Test.YtjicfkmpgogppaaOpGet
import Derived.Test.YtjicfkmpgogppaaBack
import Derived.Test.YtjicfkmpgogppaaGetIs
namespace Go.Proofs.Ytjicfkmpgogppaa.Op
set_option linter.unusedVariables false
set_option linter.unusedSimpArgs false
open Go Go.RowKit Go.Proofs.Ytjicfkmpgogppaa.Plain Go.Proofs.Ytjicfkmpgogppaa.Vr Go.Proofs.Ytjicfkmpgogppaa.Vs Go.Proofs.Ytjicfkmpgogppaa.Pv Go.Proofs.Ytjicfkmpgogppaa.Co Go.Proofs.Ytjicfkmpgogppaa.PO Go.Proofs.YtjicfkmpgogppaaW.PrintWords Go.Proofs.YtjicfkmpgogppaaW.PrintLast Go.Proofs.YtjicfkmpgogppaaW.PrintMore
theorem eq_norms_l : ∀ l : List V, (∀ x ∈ l, Eq.eqV (norm x) x = true) → Eq.eqVs (norms l) l = true
  | [], _ => rfl
  | x :: l, h => by
    simp only [norms, Eq.eqVs]
    rw [if_pos (h x (by simp))]
    exact eq_norms_l l (fun y hy => h y (by simp [hy]))
theorem eq_norm_l : ∀ (x : V) (d : Int), (putV x d).2 = 0 → Eq.eqV (norm x) x = true := by
  refine V_ind (fun a b c l ih d he => ?_)
  by_cases c0 : a = 0
  · subst c0
    simp only [norm, if_true, Eq.eqV]
    simp
  by_cases c1 : a = 1
  · subst c1
    simp only [norm, Eq.eqV]
    simp [Eq.eqV]
  by_cases c2 : a = 2
  · by_cases c3 : (l.length : Int) > 256
    · have hP : putV ⟨a, b, c, l⟩ d = (⟨#[]⟩, 5) := by simp only [putV]; rw [if_neg c0, if_neg c1, if_pos c2, if_pos c3]
      rw [hP] at he; exact absurd he (by decide)
    by_cases c4 : d ≥ 8
    · have hP : putV ⟨a, b, c, l⟩ d = (⟨#[]⟩, 5) := by simp only [putV]; rw [if_neg c0, if_neg c1, if_pos c2, if_neg c3, if_pos c4]
      rw [hP] at he; exact absurd he (by decide)
    have hP : putV ⟨a, b, c, l⟩ d = (Pk.headB l.length (putVs l (d + 1)).1, (putVs l (d + 1)).2) := by simp only [putV]; rw [if_neg c0, if_neg c1, if_pos c2, if_neg c3, if_neg c4]
    rw [hP] at he
    have hl := eq_norms_l l (fun x hx => ih x hx (d + 1) (putVs_ok l (d + 1) he x hx))
    subst c2
    have hn : norm ⟨2, b, c, l⟩ = ⟨2, 0, ⟨#[]⟩, norms l⟩ := by simp [norm]
    rw [hn]
    simp only [Eq.eqV]
    rw [if_pos trivial, if_neg (by decide), if_neg (by decide), if_pos trivial, if_pos (norms_len l)]
    exact hl
  · have hP : putV ⟨a, b, c, l⟩ d = (⟨#[]⟩, 2) := by simp only [putV]; rw [if_neg c0, if_neg c1, if_neg c2]
    rw [hP] at he; exact absurd he (by decide)
/-- what is read, and its bytes -/
theorem get_back (s : ByteArray) (hs : s.size ≤ 140737488351232 * 4) : ∃ (y : V) (e : Int), pack_Get.f s = some (y.f0, y.f1, y.f2, y.f3, e) ∧ (e = 0 → putV y 0 = (s, 0) ∧ Wf y) ∧ Small y := by
  obtain ⟨⟨e, x, q⟩, hr⟩ := Rr.valR_total mk no s 20 0 0 (by omega) (by omega) (by omega)
  have hg := get_is s hs e x q hr
  have sm := Rr.valR_small s 20 0 0 _ hr
  by_cases c : e = 0
  · subst c
    obtain ⟨g1, g2, g3, g4⟩ := vals_back 20 s 0 0 x q (by omega) hr
    by_cases c2 : q < (s.size : Int)
    · refine ⟨no, 4, by rw [hg, if_pos rfl, if_pos c2], fun h => absurd h (by decide), Rr.small_no⟩
    · have hq : q = s.size := by omega
      have e0 : s.extract (0 : Int).toNat q.toNat = s := by
        rw [hq, Int.toNat_natCast]
        exact ByteArray.extract_zero_size
      rw [e0] at g3
      exact ⟨x, 0, by rw [hg, if_pos rfl, if_neg c2], fun _ => ⟨g3, g4⟩, sm⟩
  · exact ⟨no, e, by rw [hg, if_neg c], fun h => absurd h c, Rr.small_no⟩
theorem putV2 (b : Int) (c : ByteArray) (l : List V) (d : Int) : putV ⟨2, b, c, l⟩ d = putV ⟨2, 0, ⟨#[]⟩, l⟩ d := by simp [putV]
theorem putV1 (b : Int) (c : ByteArray) (l : List V) (d : Int) : putV ⟨1, b, c, l⟩ d = putV ⟨1, 0, c, []⟩ d := by simp [putV]
theorem putV0 (b : Int) (c : ByteArray) (l : List V) (d : Int) : putV ⟨0, b, c, l⟩ d = putV ⟨0, b, ⟨#[]⟩, []⟩ d := by simp [putV]
theorem putVs_congr : ∀ (l m : List V) (d : Int), l.map (fun x => putV x d) = m.map (fun x => putV x d) → putVs l d = putVs m d
  | [], [], _, _ => rfl
  | x :: l, y :: m, d, h => by
    simp only [List.map_cons, List.cons.injEq] at h
    simp only [putVs]
    rw [h.1, putVs_congr l m d h.2]
  | [], _ :: _, _, h => by simp at h
  | _ :: _, [], _, h => by simp at h
theorem putV_list (b : Int) (c : ByteArray) (l m : List V) (d : Int) (hl : l.length = m.length) (h : ∀ d, l.map (fun x => putV x d) = m.map (fun x => putV x d)) : putV ⟨2, b, c, l⟩ d = putV ⟨2, 0, ⟨#[]⟩, m⟩ d := by
  simp only [putV]
  rw [putVs_congr l m (d + 1) (h (d + 1)), hl]
  simp
theorem req_back {s : ByteArray} {y : V} {e : Int} (h : putV y 0 = (s, 0) ∧ Wf y) (he : e = 0) (h0 : (reqR y e).2.2.2 = 0) :
    0 ≤ (reqR y e).2.1 ∧ (reqR y e).2.1 < 10 ∧ (∀ x ∈ (reqR y e).2.2.1, Wf x) ∧ putV (reqV (reqR y e).1 (reqR y e).2.1 (reqR y e).2.2.1) 0 = (s, 0) := by
  obtain ⟨a, b, c, l⟩ := y
  unfold reqR at h0 ⊢
  rw [if_pos he] at h0 ⊢
  by_cases hc : a = 2 ∧ (l.length : Int) = 3 ∧ (rd_T54 l 0).f0 = 1 ∧ (rd_T54 l 1).f0 = 0 ∧ (rd_T54 l 2).f0 = 2 ∧ 0 ≤ (rd_T54 l 1).f1 ∧ (rd_T54 l 1).f1 < 10
  · dsimp only
    rw [if_pos hc]
    obtain ⟨ca, cl, h1⟩ := hc
    obtain ⟨p, q, r, rfl⟩ := three l cl
    obtain ⟨p0, p1, p2, p3⟩ := p
    obtain ⟨q0, q1, q2, q3⟩ := q
    obtain ⟨r0, r1, r2, r3⟩ := r
    unfold rd_T54 at *
    simp only [rd0, rd1, rd2] at h1 ⊢
    obtain ⟨rfl, rfl, rfl, h5, h6⟩ := h1
    subst ca
    obtain ⟨hp, hw⟩ := h
    simp only [Wf, Wfs, and_true] at hw
    refine ⟨h5, h6, (Wfs_iff r3).mp hw.2.2.2.2, ?_⟩
    rw [← hp]
    unfold reqV
    exact (putV_list b c [⟨1, p1, p2, p3⟩, ⟨0, q1, q2, q3⟩, ⟨2, r1, r2, r3⟩] [⟨1, 0, p2, []⟩, ⟨0, q1, ⟨#[]⟩, []⟩, ⟨2, 0, ⟨#[]⟩, r3⟩] 0 rfl (fun d => by simp only [List.map_cons, List.map_nil, List.cons.injEq, and_true]; exact ⟨putV1 p1 p2 p3 d, putV0 q1 q2 q3 d, putV2 r1 r2 r3 d⟩)).symm
  · dsimp only at h0
    rw [if_neg hc] at h0
    exact absurd h0 (by decide)
theorem told_back {s : ByteArray} {y : V} {e : Int} (h : putV y 0 = (s, 0) ∧ Wf y) (he : e = 0) (h0 : (toldR y e).2.2 = 0) :
    0 ≤ (toldR y e).1 ∧ (toldR y e).1 ≤ 2147483647 ∧ Wf (toldR y e).2.1 ∧ putV (ansV (toldR y e).1 (toldR y e).2.1) 0 = (s, 0) := by
  obtain ⟨a, b, c, l⟩ := y
  unfold toldR at h0 ⊢
  rw [if_pos he] at h0 ⊢
  by_cases hc : a = 2 ∧ (l.length : Int) = 2 ∧ (rd_T54 l 0).f0 = 0 ∧ 0 ≤ (rd_T54 l 0).f1 ∧ (rd_T54 l 0).f1 ≤ 2147483647
  · dsimp only
    rw [if_pos hc]
    obtain ⟨ca, cl, h1⟩ := hc
    obtain ⟨p, q, rfl⟩ := two l cl
    obtain ⟨p0, p1, p2, p3⟩ := p
    unfold rd_T54 at *
    simp only [rd0, rd1] at h1 ⊢
    obtain ⟨rfl, h5, h6⟩ := h1
    subst ca
    obtain ⟨hp, hw⟩ := h
    simp only [Wf, Wfs, and_true] at hw
    refine ⟨h5, h6, hw.2.2, ?_⟩
    rw [← hp]
    unfold ansV
    exact (putV_list b c [⟨0, p1, p2, p3⟩, q] [⟨0, p1, ⟨#[]⟩, []⟩, q] 0 rfl (fun d => by simp only [List.map_cons, List.map_nil, List.cons.injEq, and_true]; exact putV0 p1 p2 p3 d)).symm
  · dsimp only at h0
    rw [if_neg hc] at h0
    exact absurd h0 (by decide)
/-- a value whose bytes there are, is read from them as its normal form -/
theorem get_put_val (x : V) (hw : Wf x) (h : (putV x 0).2 = 0) (hs : (putV x 0).1.size ≤ 140737488351232) : pack_Get.f (putV x 0).1 = some ((norm x).f0, (norm x).f1, (norm x).f2, (norm x).f3, 0) := by
  have hv := val_back x 0 20 (by omega) (by omega) (by omega) hw h ⟨#[]⟩ ⟨#[]⟩
  have z0 : ((⟨#[]⟩ : ByteArray).size : Int) = 0 := rfl
  rw [show (⟨#[]⟩ : ByteArray) ++ ((putV x 0).1 ++ (⟨#[]⟩ : ByteArray)) = (putV x 0).1 from (ByteArray.empty_append).trans ByteArray.append_empty, z0, Int.zero_add] at hv
  rw [get_is _ (by omega) _ _ _ hv, if_pos rfl, if_neg (by omega)]
theorem lists_ok {b : Int} {c : ByteArray} {l : List V} {d : Int} (h : (putV ⟨2, b, c, l⟩ d).2 = 0) : l.length ≤ 256 ∧ ∀ x ∈ l, (putV x (d + 1)).2 = 0 := by
  have z0 : ¬ (2 : Int) = 0 := by decide
  have z1 : ¬ (2 : Int) = 1 := by decide
  by_cases c3 : (l.length : Int) > 256
  · have hP : putV ⟨2, b, c, l⟩ d = (⟨#[]⟩, 5) := by simp only [putV]; rw [if_neg z0, if_neg z1, if_pos trivial, if_pos c3]
    rw [hP] at h; exact absurd h (by decide)
  by_cases c4 : d ≥ 8
  · have hP : putV ⟨2, b, c, l⟩ d = (⟨#[]⟩, 5) := by simp only [putV]; rw [if_neg z0, if_neg z1, if_pos trivial, if_neg c3, if_pos c4]
    rw [hP] at h; exact absurd h (by decide)
  have hP : putV ⟨2, b, c, l⟩ d = (Pk.headB l.length (putVs l (d + 1)).1, (putVs l (d + 1)).2) := by simp only [putV]; rw [if_neg z0, if_neg z1, if_pos trivial, if_neg c3, if_neg c4]
  rw [hP] at h
  exact ⟨by omega, putVs_ok l (d + 1) h⟩
theorem norm_req (s : ByteArray) (o : Int) (l : List V) : norm (reqV s o l) = reqV s o (norms l) := by simp [reqV, norm, norms]
theorem norm_ans (c : Int) (x : V) : norm (ansV c x) = ansV c (norm x) := by simp [ansV, norm, norms]
theorem reqR_reqV (s : ByteArray) (o : Int) (l : List V) (h0 : 0 ≤ o) (h1 : o < 10) : reqR (reqV s o l) 0 = (s, o, l, 0) := by
  unfold reqR reqV rd_T54
  simp only [rd0, rd1, rd2]
  rw [if_pos trivial, if_pos ⟨trivial, rfl, trivial, trivial, trivial, h0, h1⟩]
theorem toldR_ansV (c : Int) (x : V) (h0 : 0 ≤ c) (h1 : c ≤ 2147483647) : toldR (ansV c x) 0 = (c, x, 0) := by
  unfold toldR ansV rd_T54
  simp only [rd0, rd1]
  rw [if_pos trivial, if_pos ⟨trivial, rfl, trivial, h0, h1⟩]
theorem eqL (l : List V) (d : Int) (h : (putV ⟨2, 0, ⟨#[]⟩, l⟩ d).2 = 0) : pack_Equal.f 2 0 ⟨#[]⟩ (norms l) 2 0 ⟨#[]⟩ l = some true := by
  unfold pack_Equal.f
  have := eq_norm_l ⟨2, 0, ⟨#[]⟩, l⟩ d h
  rw [show norm ⟨2, 0, ⟨#[]⟩, l⟩ = ⟨2, 0, ⟨#[]⟩, norms l⟩ by simp [norm]] at this
  rw [this]
theorem eqX (x : V) (d : Int) (h : (putV x d).2 = 0) : pack_Equal.f (norm x).f0 (norm x).f1 (norm x).f2 (norm x).f3 x.f0 x.f1 x.f2 x.f3 = some true := by
  unfold pack_Equal.f
  have ex : (⟨x.f0, x.f1, x.f2, x.f3⟩ : V) = x := by cases x; rfl
  have ey : (⟨(norm x).f0, (norm x).f1, (norm x).f2, (norm x).f3⟩ : V) = norm x := by cases norm x; rfl
  rw [ex, ey, eq_norm_l x d h]
/-- one bound for all below a number -/
theorem up_to {Q : Nat → Nat → Prop} : ∀ n : Nat, (∀ i, i < n → ∃ K, ∀ k, K ≤ k → Q i k) → ∃ K, ∀ i, i < n → ∀ k, K ≤ k → Q i k
  | 0, _ => ⟨0, fun _ h => absurd h (by omega)⟩
  | n + 1, h => by
    obtain ⟨K, hK⟩ := up_to n (fun i hi => h i (by omega))
    obtain ⟨K2, hK2⟩ := h n (by omega)
    refine ⟨max K K2, fun i hi k hk => ?_⟩
    by_cases c : i = n
    · subst c; exact hK2 k (by omega)
    · exact hK i (by omega) k (by omega)
end Go.Proofs.Ytjicfkmpgogppaa.Op
