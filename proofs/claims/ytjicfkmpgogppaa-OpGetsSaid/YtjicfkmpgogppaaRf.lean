/-
  A value and the one made out of it are the same.
  The document's reader of a value and the plain reader are one.
-/
import Derived.Test.YtjicfkmpgogppaaPOx24
import Derived.Test.YtjicfkmpgogppaaVa
import Derived.Test.YtjicfkmpgogppaaPOx18
import Derived.Test.YtjicfkmpgogppaaPOx19
import Derived.Test.YtjicfkmpgogppaaVp
namespace Go.Proofs.Ytjicfkmpgogppaa.Vs
set_option linter.unusedVariables false
set_option linter.unusedSimpArgs false
open Go Go.RowKit Go.Proofs.Ytjicfkmpgogppaa.Plain Go.Proofs.Ytjicfkmpgogppaa.PO Go.Proofs.YtjicfkmpgogppaaW.PrintWords Go.Proofs.YtjicfkmpgogppaaW.PrintLast Go.Proofs.YtjicfkmpgogppaaW.PrintMore
theorem same_loop (l : List V) (a b a' b' : Int) (c c' : ByteArray) (hl : l.length ≤ 1000) (K : Nat) (hK : ∀ x ∈ l, precinctlaw18_same.f K x.f0 x.f1 x.f2 x.f3 (toW x).f0 (toW x).f1 (toW x).f2 (toW x).f3 = some true) :
    ∀ (d : Nat) (i : Int), 0 ≤ i → i + d = l.length → precinctlaw18_same.l0 (K + d + 1) l.length i a b c l a' b' c' (toWs l) = some true
  | 0, i, h0, h => by
    simp only [precinctlaw18_same.l0]
    rw [if_neg (by omega)]
  | d + 1, i, h0, h => by
    have h1 : i < l.length := by omega
    have hw : (toWs l).length = l.length := by rw [toWs_map, List.length_map]
    have ⟨hm, he⟩ := rdV l i h0 h1
    have e1 : wrap64 (i + 1) = i + 1 := by unfold wrap64; omega
    rw [show K + (d + 1) + 1 = (K + d + 1) + 1 by omega]
    simp only [precinctlaw18_same.l0]
    rw [if_pos h1, if_pos h0, if_pos h1, if_pos (by omega), he]
    have := up_le (fun k => precinctlaw18_same.mono _ _ _ _ _ _ _ _ k) (show K ≤ K + d + 1 by omega) (hK _ hm)
    rw [this, Option.bind_some, if_pos rfl, e1]
    exact same_loop l a b a' b' c c' hl K hK d (i + 1) (by omega) (by omega)
theorem same_toW : ∀ x : V, Small x → ∃ K, precinctlaw18_same.f K x.f0 x.f1 x.f2 x.f3 (toW x).f0 (toW x).f1 (toW x).f2 (toW x).f3 = some true := by
  refine V_ind (fun a b c l ih hs => ?_)
  rw [Small_eq] at hs
  obtain ⟨K, hK⟩ := up_all (Q := fun K x => precinctlaw18_same.f K x.f0 x.f1 x.f2 x.f3 (toW x).f0 (toW x).f1 (toW x).f2 (toW x).f3 = some true) (fun K K' x h e => up_le (fun k => precinctlaw18_same.mono _ _ _ _ _ _ _ _ k) h e) l (fun x hx => ih x hx (hs.2 x hx))
  have hw : (toWs l).length = l.length := by rw [toWs_map, List.length_map]
  refine ⟨K + l.length + 3, ?_⟩
  have hn : ((l.length : Int) != ((toWs l).length : Int)) = false := by simp [hw]
  simp only [toW, precinctlaw18_same.f, if_true, hn]
  simp only [precinctlaw18_same.j0]
  exact same_loop l a b a b c c hs.1 K hK l.length 0 (by omega) (by omega)
end Go.Proofs.Ytjicfkmpgogppaa.Vs
namespace Go.Proofs.Ytjicfkmpgogppaa.Rr
set_option linter.unusedVariables false
set_option linter.unusedSimpArgs false
open Go Go.RowKit Go.Proofs.Ytjicfkmpgogppaa.Plain Go.Proofs.Ytjicfkmpgogppaa.Words Go.Proofs.Ytjicfkmpgogppaa.Vr Go.Proofs.Ytjicfkmpgogppaa.Vs Go.Proofs.Ytjicfkmpgogppaa.PO Go.Proofs.YtjicfkmpgogppaaW.PrintWords Go.Proofs.YtjicfkmpgogppaaW.PrintLast Go.Proofs.YtjicfkmpgogppaaW.PrintMore
theorem rread_le {s : ByteArray} {i d : Int} {K K' : Nat} (h : K ≤ K') {r} (e : precinctref02_read.f K s i d = some r) : precinctref02_read.f K' s i d = some r := up_le (fun k => precinctref02_read.mono s i d k) h e
theorem rloop_le {x0 : ByteArray} {x2 x23 x24 x27 x30 x31 : Int} {x32 : ByteArray} {x40 x41 : Int} {x42 : ByteArray} {x43 : List W} {K K' : Nat} (h : K ≤ K') {r} (e : precinctref02_read.l0 K x0 x2 x23 x24 x27 x30 x31 x32 x40 x41 x42 x43 = some r) : precinctref02_read.l0 K' x0 x2 x23 x24 x27 x30 x31 x32 x40 x41 x42 x43 = some r :=
  up_le (f := fun K => precinctref02_read.l0 K x0 x2 x23 x24 x27 x30 x31 x32 x40 x41 x42 x43) (fun k => (precinctref02_read.mono_l k).2 _ _ _ _ _ _ _ _ _ _ _ _) h e
/-- what the document's reader answers for the plain reader's answer -/
abbrev ans (r : Int × W × Int) : Int × Int × ByteArray × List W × Int × Int := (r.2.1.f0, r.2.1.f1, r.2.1.f2, r.2.1.f3, r.2.2, r.1)
theorem rloop_good {s : ByteArray} {d N a b a' b' : Int} {c c' : ByteArray} {f : Int → Option (Int × W × Int)} (hp : ∀ (i : Int) r, 0 ≤ i → i ≤ s.size → f i = some r → r.1 = 0 → 0 ≤ r.2.2 ∧ r.2.2 ≤ s.size) (hf : ∀ (i : Int) r, 0 ≤ i → i ≤ (s.size : Int) → f i = some r → ∃ K, precinctref02_read.f K s i (wrap64 (d + 1)) = some (ans r)) (hN : N ≤ 256) :
    ∀ (n : Nat) (i : Int) (acc : List W) r, 0 ≤ i → i ≤ (s.size : Int) → (acc.length : Int) + n = N → listR f n i = some r →
      ∃ K, precinctref02_read.l0 K s d N i acc.length a b c a' b' c' acc = some (if r.1 = 0 then (a', b', c', acc ++ r.2.1, r.2.2, 0) else (a, b, c, [], 0, r.1))
  | 0, i, acc, r, h0, h1, hl, h => by
    simp only [listR, Option.some.injEq] at h
    subst h
    refine ⟨1, ?_⟩
    simp only [precinctref02_read.l0]
    rw [if_neg (by omega)]
    simp
  | n + 1, i, acc, r, h0, h1, hl, h => by
    simp only [listR] at h
    obtain ⟨⟨e, x, q⟩, hx, h⟩ := Option.bind_eq_some_iff.mp h
    obtain ⟨K, hK⟩ := hf i _ h0 h1 hx
    dsimp only at h
    by_cases g : e = 0
    · rw [if_pos g] at h
      obtain ⟨⟨e2, l, q2⟩, hl2, h⟩ := Option.bind_eq_some_iff.mp h
      simp only [Option.some.injEq] at h
      subst h
      have b0 := hp i _ h0 h1 hx g
      obtain ⟨K2, hK2⟩ := rloop_good (a := a) (b := b) (c := c) (a' := a') (b' := b') (c' := c') hp hf hN n q (acc ++ [x]) _ b0.1 b0.2 (by simp; omega) hl2
      refine ⟨max K K2 + 1, ?_⟩
      simp only [precinctref02_read.l0]
      have e1 : IntKind.u64.wrap ((acc.length : Int) + 1) = ((acc ++ [x]).length : Int) := by
        rw [wu64]; simp; omega
      rw [if_pos (by omega), rread_le (Nat.le_max_left K K2) hK, Option.bind_some, if_pos g, if_pos (by omega), e1]
      have := rloop_le (Nat.le_max_right K K2) hK2
      rw [List.append_assoc] at this
      cases x
      exact this
    · rw [if_neg g] at h
      simp only [Option.some.injEq] at h
      subst h
      refine ⟨K + 1, ?_⟩
      simp only [precinctref02_read.l0]
      rw [if_pos (by omega), hK, Option.bind_some, if_neg g, if_neg g]
theorem rread_good {s : ByteArray} (hs : s.size ≤ 140737488351232 * 4) : ∀ (k : Nat) (i d : Int) (r : Int × W × Int), 0 ≤ i → i ≤ (s.size : Int) → 0 ≤ d → d ≤ 8 → valR mkW noW k s i d = some r → ∃ K, precinctref02_read.f K s i d = some (ans r)
  | 0, _, _, _, _, _, _, _, h => by simp [valR] at h
  | k + 1, i, d, r, h0, h1, d0, d1, h => by
    have hi : -9223372036854775808 ≤ i ∧ i ≤ 9223372036854775807 := by omega
    simp only [valR] at h
    by_cases c1 : (getR s i 1).2.2 = 0
    · rw [if_pos c1] at h
      have b1 := gbounds s i 1 c1
      have hi1 : -9223372036854775808 ≤ (getR s i 1).2.1 ∧ (getR s i 1).2.1 ≤ 9223372036854775807 := by omega
      by_cases k1 : (getR s i 1).1 = 1
      · rw [if_pos k1] at h
        refine ⟨21, ?_⟩
        simp only [precinctref02_read.f]
        rw [rget_some 20 hi hs (by omega), Option.bind_some, if_pos c1, if_pos k1, rget_some 20 hi1 hs (by omega), Option.bind_some]
        unfold intR at h
        by_cases d1 : (getR s (getR s i 1).2.1 1).2.2 = 0
        · have b2 := gbounds s _ 1 d1
          rw [if_pos d1] at h ⊢
          by_cases d2 : (getR s (getR s i 1).2.1 1).1 > 8
          · rw [if_pos d2] at h ⊢
            simp at h; subst h; rfl
          rw [if_neg d2] at h ⊢
          by_cases d3 : (getR s (getR s i 1).2.1 1).1 = 0
          · rw [if_pos d3] at h ⊢
            simp at h; subst h; rfl
          rw [if_neg d3] at h ⊢
          have e1 : wrap64 (getR s (getR s i 1).2.1 1).1 = (getR s (getR s i 1).2.1 1).1 := by unfold wrap64; omega
          rw [e1, rget_some 20 (by omega) hs (by omega), Option.bind_some]
          by_cases d4 : (getR s (getR s (getR s i 1).2.1 1).2.1 (getR s (getR s i 1).2.1 1).1).2.2 = 0
          · rw [if_pos d4] at h ⊢
            have b3 := gbounds s _ _ d4
            rw [top_zero d4] at h
            rw [if_pos (by omega), if_pos (by omega)]
            by_cases d5 : bt s (getR s (getR s i 1).2.1 1).2.1 = 0
            · rw [if_pos d5] at h ⊢
              simp at h; subst h; rfl
            rw [if_neg d5] at h ⊢
            simp only [if_true, Option.some.injEq] at h
            subst h
            rw [runfold_some b3.1 b3.2.1, Option.bind_some]
          · rw [if_neg d4] at h ⊢
            simp only at h
            rw [if_neg d4] at h
            simp only [Option.some.injEq] at h
            subst h; rfl
        · rw [if_neg d1] at h ⊢
          simp only at h
          rw [if_neg d1] at h
          simp only [Option.some.injEq] at h
          subst h; rfl
      rw [if_neg k1] at h
      by_cases k2 : (getR s i 1).1 = 2
      · rw [if_pos k2] at h
        refine ⟨21, ?_⟩
        simp only [precinctref02_read.f]
        rw [rget_some 20 hi hs (by omega), Option.bind_some, if_pos c1, if_neg k1, if_pos k2, rgtext_some 20 hi1 hs (by omega), Option.bind_some]
        by_cases c2 : (gtextR s (getR s i 1).2.1).2.2 = 0
        · rw [if_pos c2] at h ⊢
          by_cases c3 : ((gtextR s (getR s i 1).2.1).1.size : Int) > 4096
          · rw [if_pos c3] at h ⊢
            simp only [Option.some.injEq] at h; subst h; rfl
          · rw [if_neg c3] at h ⊢
            simp only [Option.some.injEq] at h; subst h; rfl
        · rw [if_neg c2] at h ⊢
          simp only [Option.some.injEq] at h; subst h; rfl
      rw [if_neg k2] at h
      by_cases k3 : (getR s i 1).1 = 3
      · rw [if_pos k3] at h
        by_cases c2 : d ≥ 8
        · rw [if_pos c2] at h
          refine ⟨21, ?_⟩
          simp only [precinctref02_read.f]
          rw [rget_some 20 hi hs (by omega), Option.bind_some, if_pos c1, if_neg k1, if_neg k2, if_pos k3, if_pos c2]
          simp only [Option.some.injEq] at h; subst h; rfl
        rw [if_neg c2] at h
        by_cases c3 : (getR s (getR s i 1).2.1 2).2.2 = 0
        · rw [if_pos c3] at h
          have b2 := gbounds s _ 2 c3
          by_cases c4 : (getR s (getR s i 1).2.1 2).1 > 256
          · rw [if_pos c4] at h
            refine ⟨21, ?_⟩
            simp only [precinctref02_read.f]
            rw [rget_some 20 hi hs (by omega), Option.bind_some, if_pos c1, if_neg k1, if_neg k2, if_pos k3, if_neg c2, rget_some 20 hi1 hs (by omega), Option.bind_some, if_pos c3, if_pos c4]
            simp only [Option.some.injEq] at h; subst h; rfl
          rw [if_neg c4] at h
          obtain ⟨⟨e, l, q⟩, hl, h⟩ := Option.bind_eq_some_iff.mp h
          have e1 : wrap64 (d + 1) = d + 1 := by unfold wrap64; omega
          obtain ⟨K, hK⟩ := rloop_good (s := s) (d := d) (N := (getR s (getR s i 1).2.1 2).1) (a := 0) (b := 0) (c := ⟨#[]⟩) (a' := 2) (b' := 0) (c' := ⟨#[]⟩) (f := fun q => valR mkW noW k s q (d + 1)) (fun i r q0 q1 hq => (valR_place s k i (d + 1) r q0 q1 hq).1) (fun i r g0 g1 g => by rw [e1]; exact rread_good hs k i (d + 1) r g0 g1 (by omega) (by omega) g) (by omega) _ _ [] _ (by omega) (by omega) (by simp; omega) hl
          refine ⟨max 20 K + 1, ?_⟩
          simp only [precinctref02_read.f]
          rw [rget_some _ hi hs (by omega), Option.bind_some, if_pos c1, if_neg k1, if_neg k2, if_pos k3, if_neg c2, rget_some _ hi1 hs (by omega), Option.bind_some, if_pos c3, if_neg c4]
          have := rloop_le (Nat.le_max_right 20 K) hK
          refine this.trans ?_
          dsimp only at h ⊢
          by_cases c5 : e = 0
          · rw [if_pos c5] at h ⊢
            simp only [Option.some.injEq] at h; subst h; rfl
          · rw [if_neg c5] at h ⊢
            simp only [Option.some.injEq] at h; subst h; rfl
        · rw [if_neg c3] at h
          refine ⟨21, ?_⟩
          simp only [precinctref02_read.f]
          rw [rget_some 20 hi hs (by omega), Option.bind_some, if_pos c1, if_neg k1, if_neg k2, if_pos k3, if_neg c2, rget_some 20 hi1 hs (by omega), Option.bind_some, if_neg c3]
          simp only [Option.some.injEq] at h; subst h; rfl
      rw [if_neg k3] at h
      refine ⟨21, ?_⟩
      simp only [precinctref02_read.f]
      rw [rget_some 20 hi hs (by omega), Option.bind_some, if_pos c1, if_neg k1, if_neg k2, if_neg k3]
      simp only [Option.some.injEq] at h; subst h; rfl
    · rw [if_neg c1] at h
      refine ⟨21, ?_⟩
      simp only [precinctref02_read.f]
      rw [rget_some 20 hi hs (by omega), Option.bind_some, if_neg c1]
      simp only [Option.some.injEq] at h; subst h; rfl
end Go.Proofs.Ytjicfkmpgogppaa.Rr
