/-
  How a law's arguments are read: each kind of value, as the printed functions take it, with its size (the bulk that the given rows count).
-/
import Derived.Test.YtjicfkmpgogppaaRows
import Derived.Test.YtjicfkmpgogppaaWd
import Derived.Deep.Slices
import Derived.Deep.Fields
import Derived.ChangeSame
import Derived.WideShapes
import Derived.ChangeArms
import Derived.Lib.SmallJoins
namespace Go.Proofs.Ytjicfkmpgogppaa.Open
set_option linter.unusedVariables false
set_option linter.unusedSimpArgs false
open Go Go.ChangeShapes Go.WideShapes Go.RowKit Go.Deep Go.Joins Go.Proofs.YtjicfkmpgogppaaW.PrintWords Go.Proofs.YtjicfkmpgogppaaW.PrintLast Go.Proofs.YtjicfkmpgogppaaW.PrintMore
variable {H : Type} {enc : TypeId × Value → H} {P : Program} {w : World}

/-- what a reading at the type t gives: a value of the kind d, a good one, of at most the bulk that was read -/
def Opens (enc : TypeId × Value → H) (P : Program) (w : World) (t : TypeId) {α : Type} (d : Kd α) (good : α → Prop) (bulk : α → Nat) : Prop :=
  ∀ (fuel : Nat) (cs : List Value) (x : DataW H × List MemPlace), DataW.trod enc P w 0 (fun _ => true) true fuel t cs = some x → ∃ a, d.K w a cs ∧ good a ∧ bulk a ≤ Rows.uptoBulk x.1
theorem opens_string {t : TypeId} (ht : P.underlying t = some .string) : Opens enc P w t Kd.string (fun s => s.size ≤ maxLen) (fun s => s.size + 1) := by
  intro fuel cs x h
  obtain ⟨s, rfl, rfl, hw⟩ := DataW.trod_string ht h
  refine ⟨s, rfl, hw, ?_⟩
  simp [Rows.uptoBulk]
theorem bulkAll_append (l r : List (DataW H)) : Rows.uptoBulkAll (l ++ r) = Rows.uptoBulkAll l + Rows.uptoBulkAll r := by
  induction l with
  | nil => simp [Rows.uptoBulkAll]
  | cons x l ih => simp only [List.cons_append, Rows.uptoBulkAll, ih]; omega
theorem bulkAll_mem {d : DataW H} {l : List (DataW H)} (h : d ∈ l) : Rows.uptoBulk d ≤ Rows.uptoBulkAll l := by
  induction l with
  | nil => cases h
  | cons x r ih =>
    simp only [Rows.uptoBulkAll]
    cases List.mem_cons.1 h with
    | inl e => subst e; omega
    | inr e => have := ih e; omega
theorem bulkAll_range (D : Nat → DataW H) (b : Nat → Nat) (n : Nat) (h : ∀ i, i < n → b i ≤ Rows.uptoBulk (D i)) : ((List.range n).map b).sum ≤ Rows.uptoBulkAll ((List.range n).map D) := by
  induction n with
  | zero => simp [Rows.uptoBulkAll]
  | succ n ih =>
    rw [List.range_succ, List.map_append, List.map_append, bulkAll_append, List.sum_append]
    have := ih (fun i hi => h i (by omega))
    have := h n (by omega)
    simp only [List.map_cons, List.map_nil, Rows.uptoBulkAll, List.sum_cons, List.sum_nil]
    omega
theorem opens_slice {α : Type} [Inhabited α] {d : Kd α} {good : α → Prop} {bulk : α → Nat} {t e : TypeId} (ht : P.underlying t = some (.slice e)) (hc : P.cellsOf e = d.sz) (h : Opens enc P w e d good bulk) :
    Opens enc P w t (Kd.slice e d) (fun l => l.length ≤ maxLen ∧ ∀ a ∈ l, good a) (fun l => (l.map bulk).sum + 1) := by
  intro fuel cs x hx
  rcases open_slice ht hx with ⟨rfl, rfl⟩ | ⟨a, len, cap, m, n, D, Pl, rfl, hb, hl, hm, hmm, rfl, hi⟩
  · exact ⟨[], ⟨none, 0, rfl, by simp, Kd.C_nil _ _⟩, ⟨by simp, fun _ h => by cases h⟩, by simp [Rows.uptoBulk]⟩
  · simp only [if_true] at hmm
    subst hmm
    have hx : ∀ i, ∃ a' : α, i < m → ∃ cs', cs'.length = d.sz ∧ (∀ j, j < d.sz → w.cell? ((a.add (i * d.sz)).add j) = cs'[j]?) ∧ d.K w a' cs' ∧ good a' ∧ bulk a' ≤ Rows.uptoBulk (D i) := by
      intro i
      by_cases him : i < m
      · obtain ⟨cs', h1, h2⟩ := hi i him
        rw [hc] at h1
        obtain ⟨_, hlen, hat⟩ := World.cells?_some h1
        obtain ⟨a', hk, hg, hbk⟩ := h _ _ _ h2
        exact ⟨a', fun _ => ⟨cs', hlen, hat, hk, hg, hbk⟩⟩
      · exact ⟨default, fun h => absurd h him⟩
    obtain ⟨V, hV⟩ := Classical.axiomOfChoice hx
    refine ⟨(List.range len).map V, ⟨some a, m, by simp, by simpa using hl, ?_⟩, ⟨by simp; omega, ?_⟩, ?_⟩
    · refine ⟨rfl, by unfold maxLen at hm; simp; omega, fun _ => ⟨a, rfl, fun j p hj => ?_⟩⟩
      obtain ⟨hjl, hp⟩ := List.getElem?_eq_some_iff.1 hj
      simp at hjl hp
      obtain ⟨cs', h1, h2, h3, _⟩ := hV j (by omega)
      subst hp
      refine ⟨cs', h1, h3, fun i u hu => ?_⟩
      have hil : i < cs'.length := (List.getElem?_eq_some_iff.1 hu).1
      have h4 := h2 i (by omega)
      rw [Go.Deep.add_add] at h4
      rw [h4, hu]
    · intro a' ha'
      obtain ⟨i, hi', rfl⟩ := List.mem_map.1 ha'
      have hi2 := List.mem_range.1 hi'
      obtain ⟨_, _, _, _, hg, _⟩ := hV i (by omega)
      exact hg
    · have := bulkAll_range D (fun i => bulk (V i)) len (fun i hi' => by obtain ⟨_, _, _, _, _, hb'⟩ := hV i (by omega); exact hb')
      simp only [Rows.uptoBulk, List.map_map]
      have e : (List.map (bulk ∘ V) (List.range len)) = (List.range len).map (fun i => bulk (V i)) := rfl
      rw [e]; omega
/-- an argument that is a slice -/
theorem open_row {α : Type} {d : Kd α} {good : List α → Prop} {bulk : List α → Nat} {t e : TypeId} {b0 : Nat} {v : Value} {dd : DataW H} {ps : List MemPlace} (ht : P.underlying t = some (.slice e)) (h : Opens enc P w t (Kd.slice e d) good bulk)
    (hv : Value.okWide P w .any b0 t v) (hd : DataW.Trod enc P w 0 (fun _ => true) true t v dd ps) :
    ∃ (A : Option Addr) (l : List α) (c : Nat), v = .slice A l.length c ∧ l.length ≤ c ∧ d.C w A l.length l ∧ good l ∧ bulk l ≤ Rows.uptoBulk dd := by
  obtain ⟨a, len, cap, rfl⟩ := okWide_slice ht hv
  obtain ⟨fuel, hf⟩ := hd
  obtain ⟨l, ⟨A, c, hcs, hl, hC⟩, hg, hb⟩ := h _ _ _ hf
  simp [Value.cells] at hcs
  obtain ⟨rfl, rfl, rfl⟩ := hcs
  exact ⟨_, l, _, rfl, hl, hC, hg, hb⟩
/-- an argument that is a struct of one-cell fields, by value -/
theorem open_agg {t : TypeId} {fs : Array Field} {b0 : Nat} {v : Value} {dd : DataW H} {ps : List MemPlace} (hs : P.underlying t = some (.struct fs)) (hone : oneCellFields P fs = true) (hC : P.cellsOf t = fs.size)
    (hv : Value.okWide P w .any b0 t v) (h : DataW.Trod enc P w 0 (fun _ => true) true t v dd ps) :
    ∃ (cs : List Value) (n : Nat), v = .agg cs.toArray ∧ cs.length = fs.size ∧ ∀ (j : Nat) (f : Field), fs[j]? = some f → ∃ (u : Value) (y : DataW H × List MemPlace), cs[j]? = some u ∧ DataW.trod enc P w 0 (fun _ => true) true n f.type [u] = some y ∧ Rows.uptoBulk y.1 + 1 ≤ Rows.uptoBulk dd := by
  obtain ⟨cs, rfl, hsz⟩ := okWide_struct hs hv
  obtain ⟨l⟩ := cs
  obtain ⟨fuel, hf⟩ := h
  obtain ⟨xs, n, _, hx, _, hlen, hg⟩ := DataW.trod_struct hs hf
  have hll : l.length = fs.size := by simpa using hsz.trans hC
  refine ⟨l, n, rfl, hll, fun j f hj => ?_⟩
  obtain ⟨ho, hk⟩ := hone_of hone j f hj
  have hjl : j < fs.size := (Array.getElem?_eq_some_iff.1 hj).1
  have h1 := hg j f hj
  simp only [Value.cells] at h1
  rw [ho, hk] at h1
  have hu : l[j]? = some (l[j]'(by omega)) := List.getElem?_eq_getElem (by omega)
  have hone' : (l.drop j).take 1 = [l[j]'(by omega)] := by
    rw [List.drop_eq_getElem_cons (by omega)]
    rfl
  rw [hone'] at h1
  have hys : xs[j]? = some (xs[j]'(by omega)) := List.getElem?_eq_getElem (by omega)
  refine ⟨_, _, hu, h1.trans hys, ?_⟩
  simp only [Prod.mk.injEq] at hx
  rw [hx.1]
  have hm : (xs[j]'(by omega)).1 ∈ xs.map (·.1) := List.mem_map.2 ⟨_, List.getElem_mem _, rfl⟩
  have := bulkAll_mem hm
  simp only [Rows.uptoBulk]
  omega
theorem list_cons {α : Type} {l : List α} {n : Nat} (h : l.length = n + 1) : ∃ a r, l = a :: r ∧ r.length = n := by
  cases l with
  | nil => simp at h
  | cons a r => exact ⟨a, r, rfl, by simpa using h⟩
theorem trod_lt' {t : TypeId} {v : Value} {dd : DataW H} {ps : List MemPlace} (h : DataW.Trod enc P w 0 (fun _ => true) true t v dd ps) : ∀ x ∈ ps, x.block < w.heap.size := by
  obtain ⟨m, hm⟩ := h
  exact DataW.trod_lt m _ _ _ hm
end Go.Proofs.Ytjicfkmpgogppaa.Open
