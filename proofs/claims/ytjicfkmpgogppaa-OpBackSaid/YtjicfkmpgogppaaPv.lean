/-
  The bytes of a value, plain: pack's are these.
  What the builder builds is small and made of numbers.
-/
import Derived.Test.YtjicfkmpgogppaaPOx3
import Derived.Test.YtjicfkmpgogppaaVa
import Derived.Test.YtjicfkmpgogppaaPk
import Derived.Test.YtjicfkmpgogppaaLow
import Derived.Test.YtjicfkmpgogppaaBu
namespace Go.Proofs.Ytjicfkmpgogppaa.Pv
set_option linter.unusedVariables false
set_option linter.unusedSimpArgs false
open Go Go.RowKit Go.Proofs.Ytjicfkmpgogppaa.Plain Go.Proofs.Ytjicfkmpgogppaa.WordsA Go.Proofs.Ytjicfkmpgogppaa.Pk Go.Proofs.Ytjicfkmpgogppaa.Vs Go.Proofs.Ytjicfkmpgogppaa.PO Go.Proofs.YtjicfkmpgogppaaW.PrintWords Go.Proofs.YtjicfkmpgogppaaW.PrintLast Go.Proofs.YtjicfkmpgogppaaW.PrintMore
mutual
def putV : V → Int → ByteArray × Int
  | ⟨a, b, c, l⟩, d => if a = 0 then (intB b, 0) else if a = 1 then (if (c.size : Int) > 4096 then (⟨#[]⟩, 5) else ((⟨#[2]⟩ : ByteArray) ++ (textR c).1, 0))
    else if a = 2 then (if (l.length : Int) > 256 then (⟨#[]⟩, 5) else if d ≥ 8 then (⟨#[]⟩, 5) else (headB l.length (putVs l (d + 1)).1, (putVs l (d + 1)).2)) else (⟨#[]⟩, 2)
def putVs : List V → Int → ByteArray × Int
  | [], _ => (⟨#[]⟩, 0)
  | x :: r, d => if (putV x d).2 = 0 then ((putV x d).1 ++ (putVs r d).1, (putVs r d).2) else ((putV x d).1, (putV x d).2)
end
mutual
/-- its numbers are numbers -/
def Wf : V → Prop
  | ⟨_, b, _, l⟩ => (-9223372036854775808 ≤ b ∧ b ≤ 9223372036854775807) ∧ Wfs l
def Wfs : List V → Prop
  | [] => True
  | x :: l => Wf x ∧ Wfs l
end
mutual
def nodes : V → Nat
  | ⟨_, _, _, l⟩ => 1 + nodess l
def nodess : List V → Nat
  | [] => 0
  | x :: l => nodes x + nodess l
end
theorem Wfs_iff : ∀ l, Wfs l ↔ ∀ x ∈ l, Wf x
  | [] => by simp [Wfs]
  | x :: l => by simp [Wfs, Wfs_iff l]
theorem size_app (a b : ByteArray) : (a ++ b).size = a.size + b.size := ByteArray.size_append
theorem wdl_le (n : Int) : ∀ k, wdl k n ≤ k
  | 0 => Nat.le_refl _
  | k + 1 => by
    unfold wdl
    split
    · have := wdl_le (n / 256) k; omega
    · omega
theorem size_int (b : Int) : (intB b).size ≤ 20 := by
  unfold intB
  rw [size_app, size_app, size_put, size_put]
  have : (⟨#[1]⟩ : ByteArray).size = 1 := rfl
  omega
mutual
theorem size_putV : ∀ (x : V) (d : Int), (putV x d).1.size ≤ 4200 * nodes x
  | ⟨a, b, c, l⟩, d => by
    have hz : (⟨#[]⟩ : ByteArray).size = 0 := rfl
    have h2 : (⟨#[2]⟩ : ByteArray).size = 1 := rfl
    have h3 : (⟨#[3]⟩ : ByteArray).size = 1 := rfl
    have hi := size_int b
    simp only [putV, nodes]
    split
    · show (intB b).size ≤ _; omega
    · split
      · split
        · show (⟨#[]⟩ : ByteArray).size ≤ _; omega
        · show ((⟨#[2]⟩ : ByteArray) ++ (textR c).1).size ≤ _
          rw [size_app]
          unfold textR
          split
          · show _ + (⟨#[]⟩ : ByteArray).size ≤ _; omega
          · show _ + (put 2 c.size ++ c).size ≤ _
            rw [size_app, size_put]; omega
      · split
        · split
          · show (⟨#[]⟩ : ByteArray).size ≤ _; omega
          · split
            · show (⟨#[]⟩ : ByteArray).size ≤ _; omega
            · have := size_putVs l (d + 1)
              show (headB l.length (putVs l (d + 1)).1).size ≤ _
              unfold headB
              rw [size_app, size_app, size_put]; omega
        · show (⟨#[]⟩ : ByteArray).size ≤ _; omega
theorem size_putVs : ∀ (l : List V) (d : Int), (putVs l d).1.size ≤ 4200 * nodess l
  | [], d => Nat.zero_le _
  | x :: r, d => by
    have h1 := size_putV x d
    have h2 := size_putVs r d
    simp only [putVs, nodess]
    split
    · show ((putV x d).1 ++ (putVs r d).1).size ≤ _
      rw [size_app]; omega
    · show (putV x d).1.size ≤ _; omega
end
theorem pput_le {a b : Int} {c : ByteArray} {l : List V} {d : Int} {K K' : Nat} (h : K ≤ K') {r} (e : pack_put.f K a b c l d = some r) : pack_put.f K' a b c l d = some r := up_le (fun k => pack_put.mono k a b c l d) h e
theorem putL_le {f g : V → Int → Option (ByteArray × Int)} (h : ∀ x e r, f x e = some r → g x e = some r) (l : List V) (d : Int) {r} (e : putL f l d = some r) : putL g l d = some r := putL_mono (fun x e r hr => h x e r hr) l d r e
mutual
theorem pput_some : ∀ (x : V) (d : Int), 0 ≤ d → d ≤ 8 → Wf x → ∃ K, pack_put.f K x.f0 x.f1 x.f2 x.f3 d = some (putV x d)
  | ⟨a, b, c, l⟩, d, h0, h1, hw => by
    simp only [Wf] at hw
    by_cases c0 : a = 0
    · refine ⟨1, ?_⟩
      simp only [pack_put.f, putV]
      rw [if_pos c0, if_pos c0, if_pos hw.1]
    by_cases c1 : a = 1
    · refine ⟨1, ?_⟩
      simp only [pack_put.f, putV]
      rw [if_neg c0, if_neg c0, if_pos c1, if_pos c1]
      split <;> rfl
    by_cases c2 : a = 2
    · by_cases c3 : (l.length : Int) > 256
      · refine ⟨1, ?_⟩
        simp only [pack_put.f, putV]
        rw [if_neg c0, if_neg c0, if_neg c1, if_neg c1, if_pos c2, if_pos c2, if_pos c3, if_pos c3]
      by_cases c4 : d ≥ 8
      · refine ⟨1, ?_⟩
        simp only [pack_put.f, putV]
        rw [if_neg c0, if_neg c0, if_neg c1, if_neg c1, if_pos c2, if_pos c2, if_neg c3, if_neg c3, if_pos c4, if_pos c4]
      obtain ⟨K, hK⟩ := pputs_some l (d + 1) (by omega) (by omega) hw.2
      have e1 : wrap64 (d + 1) = d + 1 := by unfold wrap64; omega
      refine ⟨K + 1, ?_⟩
      simp only [pack_put.f, putV]
      rw [if_neg c0, if_neg c0, if_neg c1, if_neg c1, if_pos c2, if_pos c2, if_neg c3, if_neg c3, if_neg c4, if_neg c4, e1, hK]
      rfl
    · refine ⟨1, ?_⟩
      simp only [pack_put.f, putV]
      rw [if_neg c0, if_neg c0, if_neg c1, if_neg c1, if_neg c2, if_neg c2]
theorem pputs_some : ∀ (l : List V) (d : Int), 0 ≤ d → d ≤ 8 → Wfs l → ∃ K, putL (fun x e => pack_put.f K x.f0 x.f1 x.f2 x.f3 e) l d = some (putVs l d)
  | [], d, _, _, _ => ⟨0, rfl⟩
  | x :: r, d, h0, h1, hw => by
    simp only [Wfs] at hw
    obtain ⟨K1, e1⟩ := pput_some x d h0 h1 hw.1
    obtain ⟨K2, e2⟩ := pputs_some r d h0 h1 hw.2
    refine ⟨max K1 K2, ?_⟩
    simp only [putL, putVs]
    rw [pput_le (Nat.le_max_left K1 K2) e1, Option.bind_some]
    by_cases c : (putV x d).2 = 0
    · rw [if_pos c, if_pos c, putL_le (fun x e r hr => pput_le (Nat.le_max_right K1 K2) hr) r d e2]
      rfl
    · rw [if_neg c, if_neg c]
end
/-- pack.Put of a value -/
theorem packPut_some (x : V) (hw : Wf x) (hs : (putV x 0).1.size ≤ 140737488355328) : ∃ K, ∀ k, K ≤ k → Go.Proofs.Ytjicfkmpgogppaa.PO.pack_Put.f k x.f0 x.f1 x.f2 x.f3 = some (if (putV x 0).2 = 0 then (putV x 0).1 else (⟨#[]⟩ : ByteArray), (putV x 0).2) := by
  obtain ⟨K, hK⟩ := pput_some x 0 (by omega) (by omega) hw
  refine ⟨K, fun k hk => ?_⟩
  show (pack_put.f k x.f0 x.f1 x.f2 x.f3 0).bind _ = _
  rw [pput_le hk hK, Option.bind_some, if_pos hs]
/-! #### the document's -/
theorem wdl_eq (m : Nat) : ∀ (k : Nat) (n : Int), (256 : Int) ^ m ≤ n → n < 256 ^ (m + 1) → m + 1 ≤ k → wdl k n = m + 1 := by
  induction m with
  | zero =>
    intro k n h0 h1 hk
    cases k with
    | zero => exact absurd hk (by decide)
    | succ k =>
      rw [Int.pow_zero] at h0
      rw [Nat.zero_add, Int.pow_succ, Int.pow_zero, Int.one_mul] at h1
      have hn : n > 0 := by omega
      have : n / 256 = 0 := by omega
      rw [wdl_step k n hn, this]
      cases k <;> simp [wdl]
  | succ m ih =>
    intro k n h0 h1 hk
    cases k with
    | zero => exact absurd hk (Nat.not_succ_le_zero _)
    | succ k =>
      have hp : (0 : Int) < 256 ^ m := Int.pow_pos (by decide)
      have h0' : (256 : Int) ^ m * 256 ≤ n := by rw [← Int.pow_succ]; exact h0
      have h1' : n < (256 : Int) ^ (m + 1) * 256 := by rw [← Int.pow_succ]; exact h1
      generalize hq : (256 : Int) ^ m = q at h0' hp ih
      generalize hq1 : (256 : Int) ^ (m + 1) = q1 at h1' ih
      have hn : n > 0 := by omega
      rw [wdl_step k n hn, ih k (n / 256) (by omega) (by omega) (by omega)]
theorem wdl_zero (k : Nat) : wdl k 0 = 0 := by cases k <;> simp [wdl]
theorem nums_cut (x : Int) (xs : List Int) : (strOfNums (x :: xs)).extract 1 (strOfNums (x :: xs)).size = strOfNums xs := by
  apply ByteArray.ext
  simp [strOfNums, ByteArray.size]
  exact List.take_of_length_le (by simp)
theorem foldR_range {b : Int} (h : -9223372036854775808 ≤ b ∧ b ≤ 9223372036854775807) : 0 ≤ foldR b ∧ foldR b < 18446744073709551616 := by
  unfold foldR; split <;> omega
theorem intB_eq (b : Int) (h : -9223372036854775808 ≤ b ∧ b ≤ 9223372036854775807) : intB b = strOfNums [1, (wdl 9 (foldR b) : Int)] ++ strOfNums (puts (wdl 9 (foldR b)) (foldR b)) := by
  have hw : wdl 9 (foldR b) ≤ 8 := by
    have r := foldR_range h
    have h9 := wdl_le (foldR b) 8
    have h8 : (256 : Int) ^ 8 = 18446744073709551616 := by decide
    have e : wdl 9 (foldR b) = wdl 8 (foldR b) := wdl_more 8 (foldR b) (by omega)
    omega
  unfold intB put
  have e1 : (max (0 : Int) (min 1 8)).toNat = 1 := rfl
  have e2 : (max (0 : Int) (min (wdl 9 (foldR b) : Int) 8)).toNat = wdl 9 (foldR b) := by omega
  rw [e1, e2]
  congr 1
  have e3 : puts 1 (wdl 9 (foldR b) : Int) = [(wdl 9 (foldR b) : Int) % 256] := rfl
  rw [e3, show (wdl 9 (foldR b) : Int) % 256 = (wdl 9 (foldR b) : Int) by omega]
  rw [show (⟨#[1]⟩ : ByteArray) = strOfNums [1] from rfl, ← strOfNums_append]
  rfl
end Go.Proofs.Ytjicfkmpgogppaa.Pv
namespace Go.Proofs.Ytjicfkmpgogppaa.Bu
set_option linter.unusedVariables false
set_option linter.unusedSimpArgs false
open Go Go.RowKit Go.Proofs.Ytjicfkmpgogppaa.Plain Go.Proofs.Ytjicfkmpgogppaa.Pv Go.Proofs.Ytjicfkmpgogppaa.PO Go.Proofs.YtjicfkmpgogppaaW.PrintWords Go.Proofs.YtjicfkmpgogppaaW.PrintLast Go.Proofs.YtjicfkmpgogppaaW.PrintMore
theorem kids_all {P : V → Prop} (n : Nat) (f : Nat → V × Nat) (count deep : Int) (hf : ∀ b, P (f b).1) : ∀ (j : Nat) (i : Int) (a : Nat), ∀ x ∈ (kids n f count deep j i a).1, P x
  | 0, _, _, x, h => by cases h
  | j + 1, i, a, x, h => by
    simp only [kids] at h
    split at h
    · rcases List.mem_cons.mp h with rfl | h
      · exact hf a
      · exact kids_all n f count deep hf j (i + 1) _ x h
    · cases h
theorem kids_len (n : Nat) (f : Nat → V × Nat) (count deep : Int) : ∀ (j : Nat) (i : Int) (a : Nat), (kids n f count deep j i a).1.length ≤ j
  | 0, _, _ => Nat.le_refl _
  | j + 1, i, a => by
    simp only [kids]
    split
    · have := kids_len n f count deep j (i + 1) (f a).2
      simp only [List.length_cons]; omega
    · exact Nat.zero_le _
theorem small_none : Vs.Small noV := by rw [Vs.Small_eq]; simp
theorem next_small (l : List I) : ∀ (m : Nat) (deep : Int) (a : Nat), Vs.Small (nextV l m deep a).1
  | 0, _, _ => small_none
  | m + 1, deep, a => by
    simp only [nextV]
    split
    · exact small_none
    · rw [Vs.Small_eq]
      exact ⟨by have := kids_len l.length (fun b => nextV l m (deep + 1) b) (l.getD a z147).f3 deep 400 0 (a + 1); show (kids _ _ _ _ _ _ _).1.length ≤ 1000; omega, kids_all l.length _ _ deep (fun b => next_small l m (deep + 1) b) 400 0 (a + 1)⟩
theorem wf_none : Wf noV := by simp [Wf, Wfs]
theorem next_wf (l : List I) (h : ∀ x ∈ l, -9223372036854775808 ≤ x.f1 ∧ x.f1 ≤ 9223372036854775807) : ∀ (m : Nat) (deep : Int) (a : Nat), Wf (nextV l m deep a).1
  | 0, _, _ => wf_none
  | m + 1, deep, a => by
    simp only [nextV]
    split
    · exact wf_none
    · rename_i hn
      have ha : a < l.length := by omega
      have hx : l.getD a z147 = l[a] := by rw [List.getD_eq_getElem?_getD, List.getElem?_eq_getElem ha, Option.getD_some]
      simp only [Wf, Wfs_iff]
      exact ⟨by rw [hx]; exact h _ (List.getElem_mem ha), kids_all l.length _ _ deep (fun b => next_wf l h m (deep + 1) b) 400 0 (a + 1)⟩
theorem kids_nodes (n : Nat) (f : Nat → V × Nat) (count deep : Int) (hf : deep < 12 → ∀ b, b < n → b < 400 → nodes (f b).1 + b ≤ (f b).2 ∧ (f b).2 ≤ 400) : ∀ (j : Nat) (i : Int) (a : Nat), a ≤ 400 → nodess (kids n f count deep j i a).1 + a ≤ (kids n f count deep j i a).2 ∧ (kids n f count deep j i a).2 ≤ 400
  | 0, _, a, h => by simp only [kids, nodess]; omega
  | j + 1, i, a, h => by
    simp only [kids]
    split
    · rename_i hc
      have h1 := hf hc.2.1 a hc.2.2.1 hc.2.2.2
      have h2 := kids_nodes n f count deep hf j (i + 1) (f a).2 h1.2
      simp only [nodess]; omega
    · simp only [nodess]; omega
theorem next_nodes (l : List I) : ∀ (m : Nat) (deep : Int) (a : Nat), 0 ≤ deep → deep ≤ 12 → 13 - deep ≤ m → a < l.length → a < 400 → nodes (nextV l m deep a).1 + a ≤ (nextV l m deep a).2 ∧ (nextV l m deep a).2 ≤ 400
  | 0, deep, a, h0, h1, h2, _, _ => absurd h2 (by omega)
  | m + 1, deep, a, h0, h1, h2, ha, ha4 => by
    simp only [nextV]
    rw [if_neg (by omega)]
    have hk := kids_nodes l.length (fun b => nextV l m (deep + 1) b) (l.getD a z147).f3 deep (fun hd b hb hb4 => next_nodes l m (deep + 1) b (by omega) (by omega) (by omega) hb hb4) 400 0 (a + 1) (by omega)
    simp only [nodes]
    omega
theorem built_nodes (l : List I) : nodes (built l) ≤ 400 := by
  unfold built
  by_cases h : 0 < l.length
  · have := next_nodes l 13 0 0 (by omega) (by omega) (by omega) h (by omega)
    omega
  · have e : nextV l 13 0 0 = (noV, 0) := by simp only [nextV]; rw [if_pos (.inl (by omega))]
    rw [e]
    simp [nodes, nodess]
theorem built_size (l : List I) (d : Int) : (putV (built l) d).1.size ≤ 140737488355328 := by
  have h1 := size_putV (built l) d
  have h2 := built_nodes l
  omega
theorem built_wf (l : List I) (h : ∀ x ∈ l, -9223372036854775808 ≤ x.f1 ∧ x.f1 ≤ 9223372036854775807) : Wf (built l) := next_wf l h 13 0 0
theorem built_small (l : List I) : Vs.Small (built l) := next_small l 13 0 0
end Go.Proofs.Ytjicfkmpgogppaa.Bu
