/-
  How a law's arguments are read: each kind of value, as the printed functions take it, with its size (the bulk that the given rows count).
  How a workflow's nodes (plain data) are read.
  An argument that is an ask: a struct with a workflow in it.
-/
import Derived.Test.YtjicfkmpgogppaaRows
import Derived.Test.YtjicfkmpgogppaaWd
import Derived.Deep.Slices
import Derived.Deep.Fields
import Derived.ChangeSame
import Derived.WideShapes
import Derived.ChangeArms
import Derived.Lib.SmallJoins
import Derived.Test.YtjicfkmpgogppaaH0
namespace Go.Proofs.Ytjicfkmpgogppaa.Open
set_option linter.unusedVariables false
set_option linter.unusedSimpArgs false
open Go Go.ChangeShapes Go.WideShapes Go.RowKit Go.Deep Go.Joins Go.Proofs.YtjicfkmpgogppaaW.PrintWords Go.Proofs.YtjicfkmpgogppaaW.PrintLast Go.Proofs.YtjicfkmpgogppaaW.PrintMore
variable {H : Type} {enc : TypeId × Value → H} {P : Program} {w : World}

/-- what a reading at the type t gives: a value of the kind d, a good one, of at most the bulk that was read -/
def Opens (enc : TypeId × Value → H) (P : Program) (w : World) (t : TypeId) {α : Type} (d : Kd α) (good : α → Prop) (bulk : α → Nat) : Prop :=
  ∀ (fuel : Nat) (cs : List Value) (x : DataW H × List MemPlace), DataW.trod enc P w 0 (fun _ => true) true fuel t cs = some x → ∃ a, d.K w a cs ∧ good a ∧ bulk a ≤ Rows.uptoBulk x.1
theorem opens_string {t : TypeId} (ht : P.underlying t = some .string) : Opens enc P w t Kd.string (fun s => s.size ≤ maxLen) (fun s => s.size + 1) := by
  intro fuel cs x h
  obtain ⟨s, rfl, rfl, hw⟩ := DataW.trod_string ht h
  refine ⟨s, rfl, hw, ?_⟩
  simp [Rows.uptoBulk]
theorem bulkAll_append (l r : List (DataW H)) : Rows.uptoBulkAll (l ++ r) = Rows.uptoBulkAll l + Rows.uptoBulkAll r := by
  induction l with
  | nil => simp [Rows.uptoBulkAll]
  | cons x l ih => simp only [List.cons_append, Rows.uptoBulkAll, ih]; omega
theorem bulkAll_range (D : Nat → DataW H) (b : Nat → Nat) (n : Nat) (h : ∀ i, i < n → b i ≤ Rows.uptoBulk (D i)) : ((List.range n).map b).sum ≤ Rows.uptoBulkAll ((List.range n).map D) := by
  induction n with
  | zero => simp [Rows.uptoBulkAll]
  | succ n ih =>
    rw [List.range_succ, List.map_append, List.map_append, bulkAll_append, List.sum_append]
    have := ih (fun i hi => h i (by omega))
    have := h n (by omega)
    simp only [List.map_cons, List.map_nil, Rows.uptoBulkAll, List.sum_cons, List.sum_nil]
    omega
theorem opens_slice {α : Type} [Inhabited α] {d : Kd α} {good : α → Prop} {bulk : α → Nat} {t e : TypeId} (ht : P.underlying t = some (.slice e)) (hc : P.cellsOf e = d.sz) (h : Opens enc P w e d good bulk) :
    Opens enc P w t (Kd.slice e d) (fun l => l.length ≤ maxLen ∧ ∀ a ∈ l, good a) (fun l => (l.map bulk).sum + 1) := by
  intro fuel cs x hx
  rcases open_slice ht hx with ⟨rfl, rfl⟩ | ⟨a, len, cap, m, n, D, Pl, rfl, hb, hl, hm, hmm, rfl, hi⟩
  · exact ⟨[], ⟨none, 0, rfl, by simp, Kd.C_nil _ _⟩, ⟨by simp, fun _ h => by cases h⟩, by simp [Rows.uptoBulk]⟩
  · simp only [if_true] at hmm
    subst hmm
    have hx : ∀ i, ∃ a' : α, i < m → ∃ cs', cs'.length = d.sz ∧ (∀ j, j < d.sz → w.cell? ((a.add (i * d.sz)).add j) = cs'[j]?) ∧ d.K w a' cs' ∧ good a' ∧ bulk a' ≤ Rows.uptoBulk (D i) := by
      intro i
      by_cases him : i < m
      · obtain ⟨cs', h1, h2⟩ := hi i him
        rw [hc] at h1
        obtain ⟨_, hlen, hat⟩ := World.cells?_some h1
        obtain ⟨a', hk, hg, hbk⟩ := h _ _ _ h2
        exact ⟨a', fun _ => ⟨cs', hlen, hat, hk, hg, hbk⟩⟩
      · exact ⟨default, fun h => absurd h him⟩
    obtain ⟨V, hV⟩ := Classical.axiomOfChoice hx
    refine ⟨(List.range len).map V, ⟨some a, m, by simp, by simpa using hl, ?_⟩, ⟨by simp; omega, ?_⟩, ?_⟩
    · refine ⟨rfl, by unfold maxLen at hm; simp; omega, fun _ => ⟨a, rfl, fun j p hj => ?_⟩⟩
      obtain ⟨hjl, hp⟩ := List.getElem?_eq_some_iff.1 hj
      simp at hjl hp
      obtain ⟨cs', h1, h2, h3, _⟩ := hV j (by omega)
      subst hp
      refine ⟨cs', h1, h3, fun i u hu => ?_⟩
      have hil : i < cs'.length := (List.getElem?_eq_some_iff.1 hu).1
      have h4 := h2 i (by omega)
      rw [Go.Deep.add_add] at h4
      rw [h4, hu]
    · intro a' ha'
      obtain ⟨i, hi', rfl⟩ := List.mem_map.1 ha'
      have hi2 := List.mem_range.1 hi'
      obtain ⟨_, _, _, _, hg, _⟩ := hV i (by omega)
      exact hg
    · have := bulkAll_range D (fun i => bulk (V i)) len (fun i hi' => by obtain ⟨_, _, _, _, _, hb'⟩ := hV i (by omega); exact hb')
      simp only [Rows.uptoBulk, List.map_map]
      have e : (List.map (bulk ∘ V) (List.range len)) = (List.range len).map (fun i => bulk (V i)) := rfl
      rw [e]; omega
theorem trod_lt' {t : TypeId} {v : Value} {dd : DataW H} {ps : List MemPlace} (h : DataW.Trod enc P w 0 (fun _ => true) true t v dd ps) : ∀ x ∈ ps, x.block < w.heap.size := by
  obtain ⟨m, hm⟩ := h
  exact DataW.trod_lt m _ _ _ hm
end Go.Proofs.Ytjicfkmpgogppaa.Open
namespace Go.Proofs.Ytjicfkmpgogppaa.Open
set_option linter.unusedVariables false
set_option linter.unusedSimpArgs false
open Go Go.ChangeShapes Go.WideShapes Go.RowKit Go.Deep Go.Joins Go.Proofs.Ytjicfkmpgogppaa.PA Go.Proofs.YtjicfkmpgogppaaW.PrintWords Go.Proofs.YtjicfkmpgogppaaW.PrintLast Go.Proofs.YtjicfkmpgogppaaW.PrintMore
instance : Inhabited S121 := ⟨z121⟩
/-- what is known of a node that was read -/
def NodeGood (x : S121) : Prop := x.f0.size ≤ maxLen ∧ (∀ d ∈ x.f1, d.size ≤ maxLen) ∧ (Lit.int .i64 x.f2).wf = true ∧ (Lit.int .i64 x.f3).wf = true ∧ (Lit.int .i64 x.f4).wf = true ∧ x.f5.size ≤ maxLen
set_option maxRecDepth 100000 in
theorem opens_node {H : Type} {enc : TypeId × Value → H} {w : World} : Opens enc Try.prog w 121 k121 NodeGood (fun _ => 0) := by
  intro fuel cs x h
  obtain ⟨xs, n, rfl, hx, hl, hlen, hg⟩ := DataW.trod_struct Try.underlying121 h
  have hc : Try.prog.cellsOf 121 = 6 := by kernel_rfl
  have c9 : Try.prog.cellsOf 9 = 1 := by kernel_rfl
  have c46 : Try.prog.cellsOf 46 = 1 := by kernel_rfl
  have c3 : Try.prog.cellsOf 3 = 1 := by kernel_rfl
  have c2 : Try.prog.cellsOf 2 = 1 := by kernel_rfl
  rw [hc] at hl
  match cs, hl, xs, hlen with
  | [u0, u1, u2, u3, u4, u5], _, [y0, y1, y2, y3, y4, y5], _ =>
    have h0 : DataW.trod enc Try.prog w 0 (fun _ => true) true n 9 (([u0, u1, u2, u3, u4, u5].drop 0).take (Try.prog.cellsOf 9)) = [y0, y1, y2, y3, y4, y5][0]? := hg 0 _ rfl
    have h1 : DataW.trod enc Try.prog w 0 (fun _ => true) true n 46 (([u0, u1, u2, u3, u4, u5].drop 1).take (Try.prog.cellsOf 46)) = [y0, y1, y2, y3, y4, y5][1]? := hg 1 _ rfl
    have h2 : DataW.trod enc Try.prog w 0 (fun _ => true) true n 3 (([u0, u1, u2, u3, u4, u5].drop 2).take (Try.prog.cellsOf 3)) = [y0, y1, y2, y3, y4, y5][2]? := hg 2 _ rfl
    have h3 : DataW.trod enc Try.prog w 0 (fun _ => true) true n 2 (([u0, u1, u2, u3, u4, u5].drop 3).take (Try.prog.cellsOf 2)) = [y0, y1, y2, y3, y4, y5][3]? := hg 3 _ rfl
    have h4 : DataW.trod enc Try.prog w 0 (fun _ => true) true n 3 (([u0, u1, u2, u3, u4, u5].drop 4).take (Try.prog.cellsOf 3)) = [y0, y1, y2, y3, y4, y5][4]? := hg 4 _ rfl
    have h5 : DataW.trod enc Try.prog w 0 (fun _ => true) true n 9 (([u0, u1, u2, u3, u4, u5].drop 5).take (Try.prog.cellsOf 9)) = [y0, y1, y2, y3, y4, y5][5]? := hg 5 _ rfl
    simp only [c9, c46, c3, c2, List.drop_zero, List.drop_succ_cons, List.take_succ_cons, List.take_zero, List.getElem?_cons_zero, List.getElem?_cons_succ] at h0 h1 h2 h3 h4 h5
    obtain ⟨a0, e0, _, g0⟩ := DataW.trod_string Try.underlying9 h0
    obtain ⟨l, ⟨A, c, e1, l1, C1⟩, g1, _⟩ := opens_slice Try.underlying46 (by kernel_rfl) (opens_string Try.underlying9) _ _ _ h1
    obtain ⟨a2, e2, _, g2⟩ := DataW.trod_int Try.underlying3 h2
    obtain ⟨a3, e3, _, g3⟩ := DataW.trod_int Try.underlying2 h3
    obtain ⟨a4, e4, _, g4⟩ := DataW.trod_int Try.underlying3 h4
    obtain ⟨a5, e5, _, g5⟩ := DataW.trod_string Try.underlying9 h5
    simp only [List.cons.injEq, and_true] at e0 e1 e2 e3 e4 e5
    subst e0; subst e1; subst e2; subst e3; subst e4; subst e5
    exact ⟨⟨a0, l, a2, a3, a4, a5⟩, k121_mk w ⟨a0, l, a2, a3, a4, a5⟩ l1 C1, ⟨g0, g1.2, g2, g3, g4, g5⟩, Nat.zero_le _⟩
end Go.Proofs.Ytjicfkmpgogppaa.Open
namespace Go.Proofs.Ytjicfkmpgogppaa.Open
set_option linter.unusedVariables false
set_option linter.unusedSimpArgs false
open Go Go.ChangeShapes Go.WideShapes Go.ChangeAt Go.RowKit Go.Proofs.YtjicfkmpgogppaaW.PrintWords
theorem fld {H : Type} {enc : TypeId × Value → H} {P : Program} {w : World} {n t off j k : Nat} {cs us : List Value} {xs : List (DataW H × List MemPlace)} {x : DataW H × List MemPlace} (h : DataW.trod enc P w 0 (fun _ => true) true n t ((cs.drop off).take (P.cellsOf t)) = xs[j]?) (hk : P.cellsOf t = k) (hu : (cs.drop off).take k = us) (hx : xs[j]? = some x) : DataW.trod enc P w 0 (fun _ => true) true n t us = some x := by
  subst hk
  subst hu
  rw [h, hx]
theorem weigh_slice {H : Type} {enc : TypeId × Value → H} {P : Program} {w : World} {t e : TypeId} {n : Nat} {A : Option Addr} {m c : Nat} {x : DataW H × List MemPlace} (ht : P.underlying t = some (.slice e)) (h : DataW.trod enc P w 0 (fun _ => true) true n t [.slice A m c] = some x) (hw : ∀ n ∈ x.1.weights P t, n ≤ reachBytes) : m * P.bytesOf e ≤ reachBytes := by
  rcases Go.Deep.open_slice ht h with ⟨h0, _⟩ | ⟨a, len, cap, m', n', D, Pl, h0, _, _, _, _, rfl, _⟩
  · simp at h0
    obtain ⟨_, rfl, _⟩ := h0
    rw [Nat.zero_mul]; exact Nat.zero_le _
  · simp at h0
    obtain ⟨_, rfl, _⟩ := h0
    have := hw ((((List.range m).map D).length + ((List.range (m' - m)).map fun j => D (m + j)).length) * P.bytesOf e) (by simp [DataW.weights, ht])
    rw [List.length_map, List.length_range, List.length_map, List.length_range] at this
    exact Nat.le_trans (Nat.mul_le_mul_right _ (Nat.le_add_right _ _)) this
theorem weigh_agg {H : Type} {P : Program} {t : TypeId} {fs : Array Field} {ds : List (DataW H)} (ht : P.underlying t = some (.struct fs)) (hw : ∀ n ∈ (DataW.agg ds).weights P t, n ≤ reachBytes) (j : Nat) (f : Field) (d : DataW H) (hf : fs.toList[j]? = some f) (hd : ds[j]? = some d) : ∀ n ∈ d.weights P f.type, n ≤ reachBytes := fun n hn => hw n (by
  simp only [DataW.weights, ht]
  exact DataW.weights_mem_each (t := f.type) (by rw [List.getElem?_map, hf]; rfl) hd n hn)
set_option maxRecDepth 100000 in
theorem open_ask {H : Type} {enc : TypeId × Value → H} {w : World} {b0 : Nat} {v : Value} {dd : DataW H} {ps : List MemPlace} (hv : Value.okWide Try.prog w .any b0 104 v) (h : DataW.Trod enc Try.prog w 0 (fun _ => true) true 104 v dd ps) (hw : ∀ n ∈ dd.weights Try.prog 104, n ≤ reachBytes) :
    ∃ (o run node tri : Int) (ok : Bool) (per rol til cal : Int) (nm fn : ByteArray) (A : Option Addr) (c : Nat) (l : List PA.S121), v = .agg #[.int .i64 o, .int .i64 run, .int .i64 node, .int .i64 tri, .bool ok, .int .i64 per, .int .i64 rol, .int .i64 til, .int .i64 cal, .string nm, .string fn, .slice A l.length c] ∧ l.length ≤ c ∧ Kd.C PA.k121 w A l.length l ∧ l.length * 80 ≤ 140737488351232 := by
  obtain ⟨cs, rfl, hsz⟩ := okWide_struct Try.underlying104 hv
  obtain ⟨cs⟩ := cs
  obtain ⟨fuel, hf⟩ := h
  obtain ⟨xs, n, _, hdd, _, hlen, hg⟩ := DataW.trod_struct Try.underlying104 hf
  obtain rfl := (Prod.mk.inj hdd).1
  have hl : cs.length = 12 := by simpa using hsz.trans (by kernel_rfl)
  simp only [Value.cells] at hg
  match cs, hl, xs, hlen, hg with
  | [c0, c1, c2, c3, c4, c5, c6, c7, c8, c9, c10, c11], _, [x0, x1, x2, x3, x4, x5, x6, x7, x8, x9, x10], _, hg =>
    obtain ⟨o, e0, _, _⟩ := DataW.trod_int Try.underlying3 (fld (hg 0 _ rfl) (k := 1) (us := [c0]) (by kernel_rfl) rfl rfl)
    obtain ⟨run, e1, _, _⟩ := DataW.trod_int Try.underlying2 (fld (hg 1 _ rfl) (k := 1) (us := [c1]) (by kernel_rfl) rfl rfl)
    obtain ⟨node, e2, _, _⟩ := DataW.trod_int Try.underlying3 (fld (hg 2 _ rfl) (k := 1) (us := [c2]) (by kernel_rfl) rfl rfl)
    obtain ⟨tri, e3, _, _⟩ := DataW.trod_int Try.underlying3 (fld (hg 3 _ rfl) (k := 1) (us := [c3]) (by kernel_rfl) rfl rfl)
    obtain ⟨ok, e4, _⟩ := DataW.trod_bool Try.underlying4 (fld (hg 4 _ rfl) (k := 1) (us := [c4]) (by kernel_rfl) rfl rfl)
    obtain ⟨per, e5, _, _⟩ := DataW.trod_int Try.underlying3 (fld (hg 5 _ rfl) (k := 1) (us := [c5]) (by kernel_rfl) rfl rfl)
    obtain ⟨rol, e6, _, _⟩ := DataW.trod_int Try.underlying3 (fld (hg 6 _ rfl) (k := 1) (us := [c6]) (by kernel_rfl) rfl rfl)
    obtain ⟨til, e7, _, _⟩ := DataW.trod_int Try.underlying2 (fld (hg 7 _ rfl) (k := 1) (us := [c7]) (by kernel_rfl) rfl rfl)
    obtain ⟨cal, e8, _, _⟩ := DataW.trod_int Try.underlying3 (fld (hg 8 _ rfl) (k := 1) (us := [c8]) (by kernel_rfl) rfl rfl)
    obtain ⟨nm, e9, _, _⟩ := DataW.trod_string Try.underlying9 (fld (hg 9 _ rfl) (k := 1) (us := [c9]) (by kernel_rfl) rfl rfl)
    have hfl := fld (hg 10 _ rfl) (k := 2) (us := [c10, c11]) (by kernel_rfl) rfl rfl
    obtain ⟨ys, m, _, hdf, _, hlen2, hg2⟩ := DataW.trod_struct Try.underlying102 hfl
    match ys, hlen2, hg2 with
    | [y0, y1], _, hg2 =>
      obtain ⟨fn, e10, _, _⟩ := DataW.trod_string Try.underlying9 (fld (hg2 0 _ rfl) (k := 1) (us := [c10]) (by kernel_rfl) rfl rfl)
      have hls := fld (hg2 1 _ rfl) (k := 1) (us := [c11]) (by kernel_rfl) rfl rfl
      have hw1 := weigh_agg Try.underlying104 hw 10 _ x10.1 rfl rfl
      rw [hdf] at hw1
      have hw2 := weigh_agg Try.underlying102 hw1 1 _ y1.1 rfl rfl
      obtain ⟨l, ⟨A, c, e11, hc, hr⟩, _, _⟩ := (Open.opens_slice Try.underlying100 (by kernel_rfl) Open.opens_node) _ _ _ (fld (hg2 1 _ rfl) (k := 1) (us := [c11]) (by kernel_rfl) rfl rfl)
      simp only [List.cons.injEq, and_true] at e0 e1 e2 e3 e4 e5 e6 e7 e8 e9 e10 e11
      subst e11
      have hwt := weigh_slice Try.underlying100 hls hw2
      rw [show Program.bytesOf Try.prog 121 = 80 by kernel_rfl] at hwt
      subst e0 e1 e2 e3 e4 e5 e6 e7 e8 e9 e10
      exact ⟨o, run, node, tri, ok, per, rol, til, cal, nm, fn, A, c, l, rfl, hc, hr, hwt⟩
end Go.Proofs.Ytjicfkmpgogppaa.Open
