/-
  append to a slice without room: a row of new memory; what was appended to stays.
  A block, a row, a world as it was, whatever was drawn or made since: one word for a chain of steps.
  Steps through a region that draws its order: pure_ and take_ of the print with their proofs built in.
  strings.Builder in this program: what copyCheck, WriteString and String come to at a builder that the call itself has made (after the library's own proofs).
  pack.must: what is no value leaves by a panic.
  Plain facts on numbers, bits and bytes: no program in sight.
  The blocks that a walk knows: a list of them, the newest first.
  Byte texts put one behind the other: what stands at a place of them.
  What Fold and Unfold of package words, and of its reference, come to.
  Values of the program and of the document: one made out of the other.
  What Fold and Unfold of package words, and of its reference, come to.
-/
import Derived.Test.YtjicfkmpgogppaaWd
import Derived.ArgAppend
import Derived.Test.YtjicfkmpgogppaaProg
import Derived.Lib.Strings
import Derived.Shelf.Strings.Builder1
import Derived.Lib.Slices
import Derived.Lib.Walk
import Derived.Lib.Builder
import Derived.Lib.AppendStr
import Derived.Lib.UnsafeStr
import Derived.WalkKit
import Derived.KernelRfl
import Derived.Laws.Externs
import Derived.Laws.IdiomCopy
import Derived.Laws.BitsLemmas
import Derived.Deep.QuietTactic
import Derived.BigQuiet
import Derived.Below
import Derived.Deep.Draws
import Derived.Deep.AppendLies
import Derived.Maps.AppendAt
import Derived.OwnWalk
import Derived.Laws.BytesArg
import Derived.Laws.MakeOwn
import Derived.Laws.OwnMore
import Derived.Deep.OwnRows
import Derived.Tactics
import Derived.Lib.ConvBytes
import Derived.Laws.Slices
import Derived.RowKit3
import Derived.Deep.LoopGhost
import Derived.WideLaws
import Derived.Deep.DeepCutAuto
import Derived.Deep.CutBlock
import Derived.Deep.RegionHeld3
import Derived.Laws.Rows
import Derived.OrdersHeld
import Derived.RowKit
import Derived.Lib.LazyBuf
import Derived.LoopTactic
import Derived.Outline
import Derived.Recover
import Derived.WalkSmall
import GoSem.Claim
namespace Go.Proofs.YtjicfkmpgogppaaW.PrintWords
set_option linter.unusedVariables false
set_option linter.unusedSimpArgs false
open Go Go.RowKit Go.Proofs.YtjicfkmpgogppaaW.PrintLast
namespace Kd
variable {α : Type} {P : Program} {ops : Array Oper} {o : Oper} {a : Act} {Q : Exit → Act → World → Prop} {Kc : Act → World → Prop}
theorem append_full_run (d : Kd α) {W : World} (t e ty : TypeId) (z : Value) (bytes : Nat)
    (ht : P.underlying t = some (.slice e)) (hinfo : (P.info? e).map (fun i => (i.zero, i.size, i.bytes)) = some (some z, d.sz, bytes)) (hz : z.cells.size = d.sz) (hs0 : 0 < d.sz) (hb0 : 0 < bytes)
    (b : Addr) (xs ys : List α) (B : Addr) (m c : Nat) (ok okp : Nat → Prop) (hm : 0 < m) (HX : F d W okp (some b) xs.length xs) (HR : F d W okp (some B) m ys) (hfresh : ∀ k, W.heap.size ≤ k → ok k) (hokp : ∀ k, okp k → ok k)
    (hl : (xs.length + m) * bytes ≤ 140737488355328) : ∃ v1 w1, (Builtin.append_ #[t, t] ty #[.slice (some b) xs.length xs.length, .slice (some B) m c]).run P W = .ok v1 w1 ∧ N d e w1 W.heap.size ok v1 (xs ++ ys) ∧ W.grownBy w1 none := by
  obtain ⟨i0, hi, hzz⟩ := Option.map_eq_some_iff.1 hinfo
  simp only [Prod.mk.injEq] at hzz
  obtain ⟨hz0, hz1, hz2⟩ := hzz
  have hlen : xs.length + m ≤ 140737488355328 := Nat.le_trans (Nat.le_mul_of_pos_right _ hb0) hl
  have hx := F_rows HX
  have hy := F_rows HR
  have hym : ys.length = m := hy.1
  obtain ⟨r1, hl1, hr1, hf1⟩ := reads_raw hx (fun y c hk => ⟨d.K_len (FK_now hk), d.K_one (FK_now hk)⟩)
  obtain ⟨r2, hl2, hr2, hf2⟩ := reads_raw hy (fun y c hk => ⟨d.K_len (FK_now hk), d.K_one (FK_now hk)⟩)
  obtain ⟨olds, ho1, ho2⟩ := ReadsRow.inner_ hr1
  obtain ⟨news, hn1, hn2⟩ := ReadsRow.inner_ hr2
  obtain ⟨v1, w1, hrun, hown, hg⟩ := run_append_arg_grows (P := P) W t ty e i0 z d.sz bytes ht hi hz0 hz1 hz2 hz hs0 b xs.length xs.length olds (by rw [ho1.1, hl1]) ho2 B m c news (by rw [hn1.1, hl2, hym]) hn2 (by omega) (by simp only [maxLen]; omega) hl
  refine ⟨v1, w1, hrun, ⟨fun k hk => hfresh k (hown.lt k hk).1, r1 ++ r2, by rw [List.length_append, List.length_append, hl1, hl2], ⟨fun k hk => hk.symm, olds ++ news, by rw [List.length_append, hl1, hl2, hym]; exact hown, reps_append ho1 hn1⟩, fun j x c hx hc => ?_⟩, hg⟩
  have key : FK d W okp x c := by
    rcases Nat.lt_or_ge j xs.length with hj | hj
    · rw [List.getElem?_append_left hj] at hx
      rw [List.getElem?_append_left (by omega)] at hc
      exact hf1 j x c hx hc
    · rw [List.getElem?_append_right hj] at hx
      rw [List.getElem?_append_right (by omega), hl1] at hc
      exact hf2 _ x c hx hc
  refine FK_mono (FK_step (FK_bound key) (fun k hk hlt => hg.block k hlt (by simp))) (fun k hk => ⟨hokp k hk.1, fun he => ?_⟩)
  have := (hown.lt k he.symm).1
  have := hk.2
  omega
theorem append_full_step (d : Kd α) {W : World} (hw : Region.wanted o (yielded ops a.tmps) = true) (s x : Operand) (t e : TypeId) (z : Value) (bytes : Nat)
    (ho : o.op = .call { callee := .builtin .append, args := #[s, x], argTypes := #[t, t] })
    (ht : P.underlying t = some (.slice e)) (hinfo : (P.info? e).map (fun i => (i.zero, i.size, i.bytes)) = some (some z, d.sz, bytes)) (hz : z.cells.size = d.sz) (hs0 : 0 < d.sz) (hb0 : 0 < bytes)
    (A : Option Addr) (xs ys : List α) (B : Option Addr) (m c : Nat) (ok okp : Nat → Prop) (hs : a.eval s = .slice A xs.length xs.length) (hx : a.eval x = .slice B m c) (hm : 0 < m)
    (HX : F d W okp A xs.length xs) (HR : F d W okp B m ys) (hfresh : ∀ k, W.heap.size ≤ k → ok k) (hokp : ∀ k, okp k → ok k) (hl : (xs.length + m) * bytes ≤ 140737488355328)
    (h : ∀ v1 w1, N d e w1 W.heap.size ok v1 (xs ++ ys) → W.grownBy w1 none → Kc (a.put o.dst v1) w1) :
    if Region.wanted o (yielded ops a.tmps) = true then Oper.wp P o a W Kc Q else Kc (a.put o.dst undef) W := by
  obtain ⟨ad, rfl, _⟩ := (F_rows HR).2.2 hm
  rcases A with _ | b
  · have h0 : xs.length = 0 := by
      rcases Nat.eq_zero_or_pos xs.length with h0 | h0
      · exact h0
      · obtain ⟨_, h, _⟩ := (F_rows HX).2.2 h0
        cases h
    obtain rfl : xs = [] := List.eq_nil_of_length_eq_zero h0
    exact N_append_rows_step d (w0 := W) W.heap.size hw s x t e z bytes ho ht hinfo hz hs0 hb0 (.slice none 0 0) [] ys (some ad) m c ok okp hs hx (N_nil _ _ _ _ _) HR (fun k hk => ⟨hokp k hk, by simp [Value.ownBlock]⟩) hfresh (Below.refl _ _) (Nat.le_refl _) hl (fun v1 w1 hN _ hg _ => h v1 w1 hN hg)
  · obtain ⟨v1, w1, hr1, h1, hg⟩ := append_full_run d (W := W) t e o.type z bytes ht hinfo hz hs0 hb0 b xs ys ad m c ok okp hm HX HR hfresh hokp hl
    rw [if_pos hw]
    unfold Oper.wp execOp
    simp only [ho, resolve, invoke, builtin, Sem.run_bind, Sem.run_pure, Result.andThen_ok, List.map_toArray, List.map_cons, List.map_nil, hs, hx, hr1]
    exact h v1 w1 h1 hg
end Kd
end Go.Proofs.YtjicfkmpgogppaaW.PrintWords
namespace Go.Proofs.YtjicfkmpgogppaaW.PrintWords
open Go Go.RowKit
namespace Kd
theorem F_takeN {α : Type} {d : Kd α} {W : World} {ok : Nat → Prop} {A : Option Addr} {n : Nat} {xs ys : List α} (h : F d W ok A n xs) (m : Nat) (hm : m ≤ n) (hy : xs.take m = ys) : F d W ok A ys.length ys := by
  subst hy
  refine F_imp h (fun W' hC => ?_)
  have hl : (xs.take m).length = m := by have := hC.1; rw [List.length_take]; omega
  rw [hl]
  refine ⟨hl, by have := hC.2.1; omega, fun hp => ?_⟩
  obtain ⟨ad, e, h⟩ := hC.2.2 (by omega)
  refine ⟨ad, e, fun j p hj => h j p ?_⟩
  rw [List.getElem?_take] at hj
  split at hj
  · exact hj
  · cases hj
end Kd
end Go.Proofs.YtjicfkmpgogppaaW.PrintWords
namespace Go.Proofs.YtjicfkmpgogppaaRb
set_option linter.unusedVariables false
set_option linter.unusedSimpArgs false
open Go Go.RowKit Go.Proofs.YtjicfkmpgogppaaW.PrintWords
class Core (W' : World) (W : outParam World) : Prop where
  out : ∀ {g : Nat} {o : Obj}, W.heap[g]? = some o → W'.heap[g]? = some o
instance (priority := low) core_self (W : World) : Core W W := ⟨fun h => h⟩
instance core_drewN (W V : World) (n : Nat) [c : Core W V] : Core (W.drewN n) V := ⟨fun h => blk_drewN (c.out h) n⟩
instance core_drew (W V : World) [c : Core W V] : Core W.drew V := ⟨fun h => blk_drew (c.out h)⟩
instance core_alloc (W V : World) (o : Obj) [c : Core W V] : Core (W.alloc o) V := ⟨fun h => blk_alloc (c.out h) o⟩
theorem rb {W' W : World} [c : Core W' W] {g : Nat} {o : Obj} (h : W.heap[g]? = some o) : W'.heap[g]? = some o := c.out h
theorem core_at {W' W : World} (c : Core W' W) {k : Nat} (hk : k < W.heap.size) : W'.heap[k]? = W.heap[k]? := by
  have h : W.heap[k]? = some W.heap[k] := Array.getElem?_eq_getElem hk
  rw [h]
  exact c.out h
theorem kR {α : Type} {d : Kd α} {e base : Nat} {ok : Nat → Prop} {v : Value} {xs : List α} {W' W : World} [c : Core W' W] (h : Kd.R d e W base ok v xs) : Kd.R d e W' base ok v xs := Kd.R_step h (fun _ _ hk => core_at c hk)
theorem kN {α : Type} {d : Kd α} {e base : Nat} {ok : Nat → Prop} {v : Value} {xs : List α} {W' W : World} [c : Core W' W] (h : Kd.N d e W base ok v xs) : Kd.N d e W' base ok v xs := Kd.N_step h (fun _ _ hk => core_at c hk)
theorem bb {B : Nat} {w W : World} (h : Below B w W := by repeat (first | (with_reducible first | exact HB.out | apply below_alloc | apply pw_below_drewN | apply below_drew1 | refine below_set ?_ (Aside0.out (by assumption))) | exact HB.out)) : Below B w W := h
theorem ag {p : Prop} (h : p := by (try simp only [List.map_toArray, List.map_cons, List.map_nil]); first | done | rfl | (simp only [List.length_drop, List.length_take]; rfl)) : p := h
theorem kn {p : Prop} (h : p := by first | exact Kd.R_nil _ _ _ _ _ | exact Kd.N_nil _ _ _ _ _ | exact Kd.V_nil _ _ _ _ _ | exact Kd.Q_nil _ _ _ _ _ | exact Kd.S_nil _ _ _ _ _) : p := h
end Go.Proofs.YtjicfkmpgogppaaRb
namespace Go.Proofs.Ytjicfkmpgogppaa.Rg
set_option linter.unusedVariables false
set_option linter.unusedSimpArgs false
open Go Go.RowKit Go.Proofs.YtjicfkmpgogppaaW.PrintWords Go.Proofs.YtjicfkmpgogppaaW.PrintLast Go.Proofs.YtjicfkmpgogppaaW.PrintMore
variable {P : Program} {md : Region.Mode} {ops : Array Oper} {Q : Exit → Act → World → Prop} {S : World → Prop} {ds : List Nat}
theorem pu (i : Nat) (N : Option Tmp) {oi : Oper} {v : Value} {fuel : Nat} {l : Array Bool} {a a' : Act} {w : World}
    (h : wpAnyLast P md ops Q S ds fuel (l.setIfInBounds i true) a' w)
    (hi : ops[i]? = some oi := by rfl) (hN : oi.dst = N := by rfl) (hc : anyB md ops l (l.setIfInBounds i true) i = true := by kernel_rfl)
    (hQ : ∀ c a w, Q (.panic c) (a.put oi.dst v) w → Q (.panic c) a w := by exact (fun _ _ _ h => h))
    (hy : Yields P ops oi v a := by exact Or.inl ⟨by rfl, by intro w'; go_simp; with_reducible rfl⟩)
    (ha : a.put N v = a' := by simp only [Act.put, List.setIfInBounds_toArray, List.set_cons_zero, List.set_cons_succ, i64_w, i32_w]; rfl) : wpAnyLast P md ops Q S ds (fuel + 1) l a w := pure_ _ hi hN hc hQ hy ha h
theorem tk (i : Nat) (N : Option Tmp) {oi : Oper} {v : Value} {fuel : Nat} {l : Array Bool} {a a' : Act} {w : World} (hS : S w)
    (h : wpAnyLast P md ops Q S ds fuel (l.setIfInBounds i true) a' w)
    (hi : ops[i]? = some oi := by rfl) (hN : oi.dst = N := by rfl) (hc : takeB md ops ds l (l.setIfInBounds i true) i = true := by kernel_rfl)
    (hQ : ∀ c a w, Q (.panic c) (a.put oi.dst v) w → Q (.panic c) a w := by exact (fun _ _ _ h => h))
    (hy : YieldsIf P ops S oi v a := by exact Or.inl ⟨by rfl, by intro w' s_; (try dsimp only at s_); go_simp; with_reducible rfl⟩)
    (ha : a.put N v = a' := by simp only [Act.put, List.setIfInBounds_toArray, List.set_cons_zero, List.set_cons_succ, i64_w, i32_w]; rfl) : wpAnyLast P md ops Q S ds (fuel + 1) l a w := take_ _ hi hN hc hQ hy hS ha h
end Go.Proofs.Ytjicfkmpgogppaa.Rg
namespace Go.Proofs.Ytjicfkmpgogppaa.Bld
set_option linter.unusedVariables false
set_option linter.unusedSimpArgs false
open Go Go.RowKit Go.Shelf
theorem infoB : (Try.prog.info? 176).map (·.size) = some 2 := by kernel_rfl
theorem infoByte : (Try.prog.info? 5).map (fun i => (i.zero, i.size, i.bytes)) = some (some (.int .u8 0), 1, 1) := by kernel_rfl
set_option maxHeartbeats 1000000 in
set_option maxRecDepth 100000 in
theorem copyCheck_used (b : Nat) (w : World) (h0 : w.cell? ⟨b, 0, none⟩ = some (.pointer (some ⟨b, 0, none⟩))) :
    Calls Try.prog 114 #[.pointer (some ⟨b, 0, none⟩)] w fun e w' => e = .returned (.tuple #[]) ∧ w' = w := by
  obtain ⟨j, hj, _⟩ := Option.map_eq_some_iff.1 infoB
  go_enter Try.func114, Try.ntmps114
  go_wp2
  rw [Lib.run_neq_ptr_same w _ Try.underlying174 hj]
  go_wp2
  go_end0
  exact ⟨rfl, rfl⟩
set_option maxHeartbeats 1000000 in
set_option maxRecDepth 100000 in
theorem copyCheck_fresh (b : Nat) (w : World) (h0 : w.cell? ⟨b, 0, none⟩ = some (.pointer none)) (hsh : w.shape? b = some (176, 2)) (hfz : w.frozen? ⟨b, 0, none⟩ = false) :
    Calls Try.prog 114 #[.pointer (some ⟨b, 0, none⟩)] w fun e w' => e = .returned (.tuple #[]) ∧ w' = w.setCell ⟨b, 0, none⟩ (.pointer (some ⟨b, 0, none⟩)) := by
  obtain ⟨j, hj, hjs⟩ := Option.map_eq_some_iff.1 infoB
  go_enter Try.func114, Try.ntmps114
  go_wp2
  rw [Lib.run_to_unsafe w ⟨b, 0, none⟩ Try.underlying174 Try.underlying210 hj (by rw [hjs]; decide) hsh (Nat.zero_lt_succ 1)]
  simp only [Result.andThen]
  rw [Oper.upon_value]
  go_wp2
  rw [run_callFunc_extern Try.func118 (by kernel_rfl) (by kernel_rfl) (by kernel_rfl) (e := Extern.AbiNoEscape.same) (by kernel_rfl)]
  rw [Lib.run_noEscape]
  simp only [Result.andThen]
  rw [Oper.upon_value]
  go_wp2
  rw [Lib.run_from_unsafe w ⟨b, 0, none⟩ Try.underlying210 Try.underlying174 hj hsh (by kernel_rfl)]
  simp only [Result.andThen]
  rw [Oper.upon_value]
  go_wp2
  go_end0
  exact ⟨rfl, rfl⟩
/-- every block of another element type than bytes stays, but the builder's own -/
def KeepT (b : Nat) (w w' : World) : Prop := ∀ (g : Nat) (cs : Array Value) (T : TypeId) (fr : Nat × Nat), T ≠ 5 → g ≠ b → w.heap[g]? = some (.cells cs T fr) → w'.heap[g]? = some (.cells cs T fr)
theorem KeepT.refl (b : Nat) (w : World) : KeepT b w w := fun _ _ _ _ _ _ h => h
theorem KeepT.trans {b : Nat} {w w1 w2 : World} (h : KeepT b w w1) (k : KeepT b w1 w2) : KeepT b w w2 := fun g cs T fr hT hg hh => k g cs T fr hT hg (h g cs T fr hT hg hh)
theorem KeepT.below {b : Nat} {w w1 : World} (h : Below w.heap.size w w1) : KeepT b w w1 := fun g cs T fr _ _ hh => by
  have hl : g < w.heap.size := by
    rcases Nat.lt_or_ge g w.heap.size with h' | h'
    · exact h'
    · simp [Array.getElem?_eq_none h'] at hh
  exact (h.block g hl).trans hh
theorem KeepT.set (b j : Nat) (w : World) (u : Value) : KeepT b w (w.setCell ⟨b, j, none⟩ u) := fun g cs T fr _ hg hh => (Below.heap_setCell w ⟨b, j, none⟩ u g hg).trans hh
theorem copyCheck (B b : Nat) (bs : List Value) (w : World) (h : Lib.IsBuilder 176 5 B b bs w) :
    Calls Try.prog 114 #[.pointer (some ⟨b, 0, none⟩)] w fun e w' => e = .returned (.tuple #[]) ∧ (Lib.BuilderAt 176 5 B b (.pointer (some ⟨b, 0, none⟩)) bs w' ∧ Below B w w' ∧ KeepT b w w') := by
  rcases h with h | h
  · refine (copyCheck_fresh b w h.cell0 h.shape h.frozen0).mono ?_
    rintro e w' ⟨rfl, rfl⟩
    exact ⟨rfl, h.used _, (Below.refl B w).setCell (p := ⟨b, 0, none⟩) h.1 _, KeepT.set b 0 w _⟩
  · refine (copyCheck_used b w h.cell0).mono ?_
    rintro e w' ⟨rfl, rfl⟩
    exact ⟨rfl, h, Below.refl B _, KeepT.refl b _⟩
set_option maxHeartbeats 1000000 in
set_option maxRecDepth 100000 in
theorem writeString (B b : Nat) (bs : List Value) (s : ByteArray) (w : World) (h : Lib.IsBuilder 176 5 B b bs w) (hlen : bs.length + s.size ≤ 140737488355328) (hBw : B ≤ w.heap.size) :
    Calls Try.prog 102 #[.pointer (some ⟨b, 0, none⟩), .string s] w fun e w' => e = .returned (.tuple #[.int .i64 s.size, .nilIface]) ∧ (Lib.BuilderAt 176 5 B b (.pointer (some ⟨b, 0, none⟩)) (bs ++ Lib.strCells s) w' ∧ Below B w w' ∧ KeepT b w w') := by
  obtain ⟨i0, hi, hz0, hz1, hz2⟩ := info_parts infoByte
  go_enter Try.func102, Try.ntmps102
  go_wp2_with (go_at_call 114; refine (copyCheck B b bs _ h).mono ?_)
  rintro e w1 ⟨rfl, h1, hb1, hk1⟩
  obtain ⟨hB, v, hbk, hown, hne⟩ := h1
  have c0 : w1.cell? ⟨b, 0, none⟩ = some (.pointer (some ⟨b, 0, none⟩)) := by rw [Lib.cell_of_heap hbk]; rfl
  have c1 : w1.cell? ⟨b, 1, none⟩ = some v := by rw [Lib.cell_of_heap hbk]; rfl
  go_wp2_with (at_builtin; refine Lib.wpList_append_own_string _ rfl _ _ 44 9 rfl B 5 i0 Try.underlying44 Try.underlying9 hi hz0 hz1 hz2 _ _ _ rfl hown s rfl ?c3 ?c4 ?c5 ?_)
  case c3 => unfold maxLen; omega
  case c4 => omega
  case c5 => have := hb1.size; omega
  intro v' w2 hown' hgrow _
  have hlt : b < w1.heap.size := by
    rcases Nat.lt_or_ge b w1.heap.size with h' | h'
    · exact h'
    · simp [Array.getElem?_eq_none h'] at hbk
  have hb2 : w2.heap[b]? = some (.cells #[.pointer (some ⟨b, 0, none⟩), v] 176 (0, 0)) := by
    rw [hgrow.block b hlt (fun e => hne e.symm)]
    exact hbk
  have d0 : w2.cell? ⟨b, 0, none⟩ = some (.pointer (some ⟨b, 0, none⟩)) := by rw [Lib.cell_of_heap hb2]; rfl
  have d1 : w2.cell? ⟨b, 1, none⟩ = some v := by rw [Lib.cell_of_heap hb2]; rfl
  have f1 : w2.frozen? ⟨b, 1, none⟩ = false := Lib.frozen_of_heap hb2 1
  obtain ⟨ao, n', cap, rfl⟩ : ∃ ao n' cap, v' = .slice ao n' cap := by
    rcases hown'.2 with ⟨hv, _⟩ | ⟨g, cap, cur, hv, _⟩
    · exact ⟨_, _, _, hv⟩
    · exact ⟨_, _, _, hv⟩
  go_wp2
  go_ret2
  refine ⟨rfl, ?_, ?_, ?_⟩
  · exact Lib.BuilderAt.put (T := 176) (e := 5) hB hb2 (bs' := bs ++ Lib.strCells s) (by simpa [Lib.strCells_length] using hown') (by decide)
  · exact (hb1.grown hgrow (by have := hb1.size; omega) (fun k hk => (hown.lt k hk).1)).setCell (p := ⟨b, 1, none⟩) hB _
  · refine hk1.trans (KeepT.trans (w1 := w2) (fun g cs T fr hT hg hh => ?_) (KeepT.set b 1 w2 _))
    have hl : g < w1.heap.size := by
      rcases Nat.lt_or_ge g w1.heap.size with h' | h'
      · exact h'
      · simp [Array.getElem?_eq_none h'] at hh
    exact (hgrow.block g hl (fun e => Lib.ownBlock_ne hown hh hT e.symm)).trans hh
def lays169_ren : Go.Shelf.Ren := ⟨fun | 169 => 95 | n => n, fun | 70 => 174 | 9 => 9 | 0 => 0 | 72 => 176 | 37 => 44 | 127 => 196 | 3 => 3 | 5 => 5 | n => n, fun | n => n⟩
theorem lays169 : Go.Proofs.Lays.n169 Try.prog lays169_ren := {
  mixed := by kernel_rfl
  f169 := Try.func95.trans (congrArg some (by kernel_rfl))
  t0 := Try.underlying0
  a0 := Try.isAgg0
  z0 := Try.sizeOf0
  v0 := Try.zeroValue0
  t3 := Try.underlying3
  a3 := Try.isAgg3
  z3 := Try.sizeOf3
  v3 := Try.zeroValue3
  t9 := Try.underlying9
  a9 := Try.isAgg9
  z9 := Try.sizeOf9
  v9 := Try.zeroValue9
  t37 := Try.underlying44
  a37 := Try.isAgg44
  z37 := Try.sizeOf44
  v37 := Try.zeroValue44
  t70 := Try.underlying174
  a70 := Try.isAgg174
  z70 := Try.sizeOf174
  v70 := Try.zeroValue174
  t72 := Try.underlying176
  a72 := Try.isAgg176
  z72 := Try.sizeOf176
  v72 := Try.zeroValue176
  t127 := Try.underlying196
  a127 := Try.isAgg196
  z127 := Try.sizeOf196
  v127 := Try.zeroValue196 }
theorem extra169 : Builder.Extra Try.prog lays169_ren := {
  sizeBuilder := by kernel_rfl
  liesBuilder := by kernel_rfl
  t5 := Try.underlying5
  a5 := Try.isAgg5
  z5 := Try.sizeOf5
  v5 := Try.zeroValue5
  infoByte := by kernel_rfl
  cellsByte := by kernel_rfl
  sizeByte := by kernel_rfl
  neB5 := by decide }
theorem string_any (B b : Nat) (l : List UInt8) (w : World) (h : Lib.IsBuilder 176 5 B b (Lib.byteCells l) w) (hBw : B ≤ w.heap.size) :
    Calls Try.prog 95 #[.pointer (some ⟨b, 0, none⟩)] w fun e w' => e = .returned (.string ⟨l.toArray⟩) ∧ Below B w w' := Any.Builder_String_any lays169 extra169 B b l w h hBw
end Go.Proofs.Ytjicfkmpgogppaa.Bld
-- printed by a program of this session out of the translation; see NOTES.md
namespace Go.Proofs.Ytjicfkmpgogppaa.PA
open Go.RowKit Go.Proofs.YtjicfkmpgogppaaW.PrintWords Go.Proofs.YtjicfkmpgogppaaW.PrintLast Go.Proofs.YtjicfkmpgogppaaW.PrintMore
attribute [local go_sem] max2_int min2_int max_two min_two max_three min_three max_four min_four   -- for this text's walks alone
set_option linter.unusedVariables false
set_option linter.unusedSimpArgs false



def errW : Option Int → Value
 | none => .nilIface
 | some c => .iface 0 (.int .i64 c)
theorem errW_none : errW none = .nilIface := rfl
theorem errW_some (c : Int) : errW (some c) = .iface 0 (.int .i64 c) := rfl

theorem info5 : (Try.prog.info? 5).map (fun i => (i.zero, i.size, i.bytes)) = some (some (.int .u8 0), 1, 1) := by kernel_rfl
theorem info9 : (Try.prog.info? 9).map (fun i => (i.zero, i.size, i.bytes)) = some (some (.string ⟨#[]⟩), 1, 16) := by kernel_rfl
theorem info48 : (Try.prog.info? 48).map (fun i => (i.zero, i.size, i.bytes)) = some (some (.agg #[(.string ⟨#[]⟩), (.slice none 0 0), (.int .i64 0), (.int .i64 0), (.int .i64 0), (.string ⟨#[]⟩)]), 6, 80) := by kernel_rfl
theorem info54 : (Try.prog.info? 54).map (fun i => (i.zero, i.size, i.bytes)) = some (some (.agg #[(.int .i64 0), (.int .i64 0), (.string ⟨#[]⟩), (.slice none 0 0)]), 4, 56) := by kernel_rfl
theorem info57 : (Try.prog.info? 57).map (fun i => (i.zero, i.size, i.bytes)) = some (some (.agg #[(.int .i64 0), (.int .i64 0), (.string ⟨#[]⟩), (.slice none 0 0)]), 4, 56) := by kernel_rfl
theorem info125 : (Try.prog.info? 125).map (fun i => (i.zero, i.size, i.bytes)) = some (some (.agg #[(.string ⟨#[]⟩), (.slice none 0 0), (.int .i64 0), (.int .i64 0), (.int .i64 0), (.string ⟨#[]⟩)]), 6, 80) := by kernel_rfl
-- the values' own types
/-! #### struct type 54, nested in itself -/
structure S54 where
 f0 : Int
 f1 : Int
 f2 : ByteArray
 f3 : (List S54)
def z54 : S54 := ⟨(0 : Int), (0 : Int), (⟨#[]⟩ : ByteArray), ([] : List S54)⟩
def F54 (d : Kd S54) : Kd S54 := Kd.iso (Kd.pair (Kd.int .i64) (Kd.pair (Kd.int .i64) (Kd.pair Kd.string (Kd.slice 54 d)))) (fun x : S54 => (x.f0, x.f1, x.f2, x.f3))
theorem mono54 : Kd.Mono F54 := Kd.mono_iso _ (Kd.mono_pair (Kd.mono_const _) (Kd.mono_pair (Kd.mono_const _) (Kd.mono_pair (Kd.mono_const _) (Kd.mono_slice 54 Kd.mono_id))))
theorem sub54 : Kd.Sub F54 [54] := Kd.sub_iso _ (Kd.sub_pair (Kd.sub_const _ (by decide)) (Kd.sub_pair (Kd.sub_const _ (by decide)) (Kd.sub_pair (Kd.sub_const _ (by decide)) (Kd.sub_slice 54 (by decide) Kd.sub_id))))
theorem sz54 : ∀ n, (Kd.upto F54 4 [54] n).sz = 4 := Kd.upto_sz (fun _ => rfl)
def k54 : Kd S54 := Kd.fix F54 4 [54] sz54 (Kd.upto_E sub54)
theorem k54_open {w : World} {x : S54} {cs : List Value} (h : k54.K w x cs) : ∃ A3 c3, cs = [.int .i64 x.f0, .int .i64 x.f1, .string x.f2, .slice A3 x.f3.length c3] ∧ x.f3.length ≤ c3 ∧ k54.C w A3 x.f3.length x.f3 := by
 obtain ⟨n, h⟩ := h
 cases n with
 | zero => exact h.elim
 | succ n =>
  obtain ⟨_, _, rfl, rfl, ⟨_, _, rfl, rfl, ⟨_, _, rfl, rfl, ⟨A3, c3, rfl, l3, g3⟩⟩⟩⟩ := h
  exact ⟨A3, c3, rfl, l3, Kd.fix_C g3⟩
theorem k54_mk (w : World) (x : S54) {A3 : Option Addr} {c3 : Nat} (l3 : x.f3.length ≤ c3) (g3 : k54.C w A3 x.f3.length x.f3) : k54.K w x [.int .i64 x.f0, .int .i64 x.f1, .string x.f2, .slice A3 x.f3.length c3] := by
 obtain ⟨n3, q3⟩ := Kd.fix_C_back mono54 g3
 have r3 := Kd.upto_C_le mono54 sz54 (show n3 ≤ n3 by omega) q3
 exact ⟨n3 + 1, ⟨[.int .i64 x.f0], [.int .i64 x.f1, .string x.f2, .slice A3 x.f3.length c3], rfl, rfl, ⟨[.int .i64 x.f1], [.string x.f2, .slice A3 x.f3.length c3], rfl, rfl, ⟨[.string x.f2], [.slice A3 x.f3.length c3], rfl, rfl, ⟨A3, c3, rfl, l3, r3⟩⟩⟩⟩⟩
theorem k54_mkM (w : World) (base : Nat) (ok : Nat → Prop) (x : S54) {v3 : Value} (g3 : k54.R 54 w base ok v3 x.f3) : k54.M w base ok x [.int .i64 x.f0, .int .i64 x.f1, .string x.f2, v3] := by
 obtain ⟨n3, q3⟩ := Kd.fix_R_back mono54 g3
 have r3 := Kd.upto_R_le mono54 sz54 (show n3 ≤ n3 by omega) q3
 exact ⟨n3 + 1, ⟨[.int .i64 x.f0], [.int .i64 x.f1, .string x.f2, v3], rfl, rfl, ⟨[.int .i64 x.f1], [.string x.f2, v3], rfl, rfl, ⟨[.string x.f2], [v3], rfl, rfl, ⟨v3, rfl, r3⟩⟩⟩⟩⟩
theorem k54_mkF (W : World) (ok : Nat → Prop) (x : S54) {A3 : Option Addr} {c3 : Nat} (l3 : x.f3.length ≤ c3) (g3 : Kd.F k54 W ok A3 x.f3.length x.f3) : Kd.FK k54 W ok x [.int .i64 x.f0, .int .i64 x.f1, .string x.f2, .slice A3 x.f3.length c3] := fun W2 hW => k54_mk W2 x l3 (g3 W2 hW)
def rd_T54 (xs : List S54) (i : Int) : S54 := xs.getD i.toNat z54
theorem at_T54 {w : World} {A : Option Addr} {n : Nat} {xs : List S54} (h : Kd.C k54 w A n xs) (i : Int) (h0 : 0 ≤ i) (h1 : i < n) : ∃ ad A3 c3, A = some ad ∧ w.cell? (ad.add (i.toNat * 4)) = some (.int .i64 (rd_T54 xs i).f0) ∧ w.cell? ⟨(ad.add (i.toNat * 4)).block, (ad.add (i.toNat * 4)).off + 1, none⟩ = some (.int .i64 (rd_T54 xs i).f1) ∧ w.cell? ⟨(ad.add (i.toNat * 4)).block, (ad.add (i.toNat * 4)).off + 2, none⟩ = some (.string (rd_T54 xs i).f2) ∧ w.cell? ⟨(ad.add (i.toNat * 4)).block, (ad.add (i.toNat * 4)).off + 3, none⟩ = some (.slice A3 (rd_T54 xs i).f3.length c3) ∧ (rd_T54 xs i).f3.length ≤ c3 ∧ k54.C w A3 (rd_T54 xs i).f3.length (rd_T54 xs i).f3 := by
 obtain ⟨ad, c, e, _, hK, hc0⟩ := Kd.C_get h z54 i h0 h1
 have hc : ∀ j u, c[j]? = some u → w.cell? (ad.add (i.toNat * 4 + j)) = some u := hc0
 obtain ⟨A3, c3, rfl, l3, g3⟩ := k54_open hK
 exact ⟨ad, A3, c3, e, hc 0 _ rfl, by rw [← add_field _ _ 1 (by omega)]; exact hc 1 _ rfl, by rw [← add_field _ _ 2 (by omega)]; exact hc 2 _ rfl, by rw [← add_field _ _ 3 (by omega)]; exact hc 3 _ rfl, l3, g3⟩

/-! #### struct type 57, nested in itself -/
structure S57 where
 f0 : Int
 f1 : Int
 f2 : ByteArray
 f3 : (List S57)
def z57 : S57 := ⟨(0 : Int), (0 : Int), (⟨#[]⟩ : ByteArray), ([] : List S57)⟩
def F57 (d : Kd S57) : Kd S57 := Kd.iso (Kd.pair (Kd.int .i64) (Kd.pair (Kd.int .i64) (Kd.pair Kd.string (Kd.slice 57 d)))) (fun x : S57 => (x.f0, x.f1, x.f2, x.f3))
theorem mono57 : Kd.Mono F57 := Kd.mono_iso _ (Kd.mono_pair (Kd.mono_const _) (Kd.mono_pair (Kd.mono_const _) (Kd.mono_pair (Kd.mono_const _) (Kd.mono_slice 57 Kd.mono_id))))
theorem sub57 : Kd.Sub F57 [57] := Kd.sub_iso _ (Kd.sub_pair (Kd.sub_const _ (by decide)) (Kd.sub_pair (Kd.sub_const _ (by decide)) (Kd.sub_pair (Kd.sub_const _ (by decide)) (Kd.sub_slice 57 (by decide) Kd.sub_id))))
theorem sz57 : ∀ n, (Kd.upto F57 4 [57] n).sz = 4 := Kd.upto_sz (fun _ => rfl)
def k57 : Kd S57 := Kd.fix F57 4 [57] sz57 (Kd.upto_E sub57)
theorem k57_open {w : World} {x : S57} {cs : List Value} (h : k57.K w x cs) : ∃ A3 c3, cs = [.int .i64 x.f0, .int .i64 x.f1, .string x.f2, .slice A3 x.f3.length c3] ∧ x.f3.length ≤ c3 ∧ k57.C w A3 x.f3.length x.f3 := by
 obtain ⟨n, h⟩ := h
 cases n with
 | zero => exact h.elim
 | succ n =>
  obtain ⟨_, _, rfl, rfl, ⟨_, _, rfl, rfl, ⟨_, _, rfl, rfl, ⟨A3, c3, rfl, l3, g3⟩⟩⟩⟩ := h
  exact ⟨A3, c3, rfl, l3, Kd.fix_C g3⟩
theorem k57_mk (w : World) (x : S57) {A3 : Option Addr} {c3 : Nat} (l3 : x.f3.length ≤ c3) (g3 : k57.C w A3 x.f3.length x.f3) : k57.K w x [.int .i64 x.f0, .int .i64 x.f1, .string x.f2, .slice A3 x.f3.length c3] := by
 obtain ⟨n3, q3⟩ := Kd.fix_C_back mono57 g3
 have r3 := Kd.upto_C_le mono57 sz57 (show n3 ≤ n3 by omega) q3
 exact ⟨n3 + 1, ⟨[.int .i64 x.f0], [.int .i64 x.f1, .string x.f2, .slice A3 x.f3.length c3], rfl, rfl, ⟨[.int .i64 x.f1], [.string x.f2, .slice A3 x.f3.length c3], rfl, rfl, ⟨[.string x.f2], [.slice A3 x.f3.length c3], rfl, rfl, ⟨A3, c3, rfl, l3, r3⟩⟩⟩⟩⟩
theorem k57_mkF (W : World) (ok : Nat → Prop) (x : S57) {A3 : Option Addr} {c3 : Nat} (l3 : x.f3.length ≤ c3) (g3 : Kd.F k57 W ok A3 x.f3.length x.f3) : Kd.FK k57 W ok x [.int .i64 x.f0, .int .i64 x.f1, .string x.f2, .slice A3 x.f3.length c3] := fun W2 hW => k57_mk W2 x l3 (g3 W2 hW)
def rd_T57 (xs : List S57) (i : Int) : S57 := xs.getD i.toNat z57
theorem at_T57 {w : World} {A : Option Addr} {n : Nat} {xs : List S57} (h : Kd.C k57 w A n xs) (i : Int) (h0 : 0 ≤ i) (h1 : i < n) : ∃ ad A3 c3, A = some ad ∧ w.cell? (ad.add (i.toNat * 4)) = some (.int .i64 (rd_T57 xs i).f0) ∧ w.cell? ⟨(ad.add (i.toNat * 4)).block, (ad.add (i.toNat * 4)).off + 1, none⟩ = some (.int .i64 (rd_T57 xs i).f1) ∧ w.cell? ⟨(ad.add (i.toNat * 4)).block, (ad.add (i.toNat * 4)).off + 2, none⟩ = some (.string (rd_T57 xs i).f2) ∧ w.cell? ⟨(ad.add (i.toNat * 4)).block, (ad.add (i.toNat * 4)).off + 3, none⟩ = some (.slice A3 (rd_T57 xs i).f3.length c3) ∧ (rd_T57 xs i).f3.length ≤ c3 ∧ k57.C w A3 (rd_T57 xs i).f3.length (rd_T57 xs i).f3 := by
 obtain ⟨ad, c, e, _, hK, hc0⟩ := Kd.C_get h z57 i h0 h1
 have hc : ∀ j u, c[j]? = some u → w.cell? (ad.add (i.toNat * 4 + j)) = some u := hc0
 obtain ⟨A3, c3, rfl, l3, g3⟩ := k57_open hK
 exact ⟨ad, A3, c3, e, hc 0 _ rfl, by rw [← add_field _ _ 1 (by omega)]; exact hc 1 _ rfl, by rw [← add_field _ _ 2 (by omega)]; exact hc 2 _ rfl, by rw [← add_field _ _ 3 (by omega)]; exact hc 3 _ rfl, l3, g3⟩

/-! #### struct type 48 -/
structure S48 where
 f0 : ByteArray
 f1 : (List ByteArray)
 f2 : Int
 f3 : Int
 f4 : Int
 f5 : ByteArray
def z48 : S48 := ⟨(⟨#[]⟩ : ByteArray), ([] : List ByteArray), (0 : Int), (0 : Int), (0 : Int), (⟨#[]⟩ : ByteArray)⟩
def k48 : Kd S48 := Kd.iso (Kd.pair Kd.string (Kd.pair (Kd.slice 9 Kd.string) (Kd.pair (Kd.int .i64) (Kd.pair (Kd.int .i64) (Kd.pair (Kd.int .i64) Kd.string))))) (fun x : S48 => (x.f0, x.f1, x.f2, x.f3, x.f4, x.f5))
theorem k48_open {w : World} {x : S48} {cs : List Value} (h : k48.K w x cs) : ∃ A1 c1, cs = [.string x.f0, .slice A1 x.f1.length c1, .int .i64 x.f2, .int .i64 x.f3, .int .i64 x.f4, .string x.f5] ∧ x.f1.length ≤ c1 ∧ Kd.string.C w A1 x.f1.length x.f1 := by
 obtain ⟨_, _, rfl, rfl, ⟨_, _, rfl, ⟨A1, c1, rfl, l1, g1⟩, ⟨_, _, rfl, rfl, ⟨_, _, rfl, rfl, ⟨_, _, rfl, rfl, rfl⟩⟩⟩⟩⟩ := h
 exact ⟨A1, c1, rfl, l1, g1⟩
theorem k48_mkM (w : World) (base : Nat) (ok : Nat → Prop) (x : S48) {v1 : Value} (g1 : Kd.string.R 9 w base ok v1 x.f1) : k48.M w base ok x [.string x.f0, v1, .int .i64 x.f2, .int .i64 x.f3, .int .i64 x.f4, .string x.f5] := ⟨[.string x.f0], [v1, .int .i64 x.f2, .int .i64 x.f3, .int .i64 x.f4, .string x.f5], rfl, rfl, ⟨[v1], [.int .i64 x.f2, .int .i64 x.f3, .int .i64 x.f4, .string x.f5], rfl, ⟨v1, rfl, g1⟩, ⟨[.int .i64 x.f2], [.int .i64 x.f3, .int .i64 x.f4, .string x.f5], rfl, rfl, ⟨[.int .i64 x.f3], [.int .i64 x.f4, .string x.f5], rfl, rfl, ⟨[.int .i64 x.f4], [.string x.f5], rfl, rfl, rfl⟩⟩⟩⟩⟩
def rd_T48 (xs : List S48) (i : Int) : S48 := xs.getD i.toNat z48
theorem at_T48 {w : World} {A : Option Addr} {n : Nat} {xs : List S48} (h : Kd.C k48 w A n xs) (i : Int) (h0 : 0 ≤ i) (h1 : i < n) : ∃ ad A1 c1, A = some ad ∧ w.cell? (ad.add (i.toNat * 6)) = some (.string (rd_T48 xs i).f0) ∧ w.cell? ⟨(ad.add (i.toNat * 6)).block, (ad.add (i.toNat * 6)).off + 1, none⟩ = some (.slice A1 (rd_T48 xs i).f1.length c1) ∧ w.cell? ⟨(ad.add (i.toNat * 6)).block, (ad.add (i.toNat * 6)).off + 2, none⟩ = some (.int .i64 (rd_T48 xs i).f2) ∧ w.cell? ⟨(ad.add (i.toNat * 6)).block, (ad.add (i.toNat * 6)).off + 3, none⟩ = some (.int .i64 (rd_T48 xs i).f3) ∧ w.cell? ⟨(ad.add (i.toNat * 6)).block, (ad.add (i.toNat * 6)).off + 4, none⟩ = some (.int .i64 (rd_T48 xs i).f4) ∧ w.cell? ⟨(ad.add (i.toNat * 6)).block, (ad.add (i.toNat * 6)).off + 5, none⟩ = some (.string (rd_T48 xs i).f5) ∧ (rd_T48 xs i).f1.length ≤ c1 ∧ Kd.string.C w A1 (rd_T48 xs i).f1.length (rd_T48 xs i).f1 := by
 obtain ⟨ad, c, e, _, hK, hc0⟩ := Kd.C_get h z48 i h0 h1
 have hc : ∀ j u, c[j]? = some u → w.cell? (ad.add (i.toNat * 6 + j)) = some u := hc0
 obtain ⟨A1, c1, rfl, l1, g1⟩ := k48_open hK
 exact ⟨ad, A1, c1, e, hc 0 _ rfl, by rw [← add_field _ _ 1 (by omega)]; exact hc 1 _ rfl, by rw [← add_field _ _ 2 (by omega)]; exact hc 2 _ rfl, by rw [← add_field _ _ 3 (by omega)]; exact hc 3 _ rfl, by rw [← add_field _ _ 4 (by omega)]; exact hc 4 _ rfl, by rw [← add_field _ _ 5 (by omega)]; exact hc 5 _ rfl, l1, g1⟩

/-! #### struct type 125 -/
structure S125 where
 f0 : ByteArray
 f1 : (List ByteArray)
 f2 : Int
 f3 : Int
 f4 : Int
 f5 : ByteArray
def z125 : S125 := ⟨(⟨#[]⟩ : ByteArray), ([] : List ByteArray), (0 : Int), (0 : Int), (0 : Int), (⟨#[]⟩ : ByteArray)⟩
def k125 : Kd S125 := Kd.iso (Kd.pair Kd.string (Kd.pair (Kd.slice 9 Kd.string) (Kd.pair (Kd.int .i64) (Kd.pair (Kd.int .i64) (Kd.pair (Kd.int .i64) Kd.string))))) (fun x : S125 => (x.f0, x.f1, x.f2, x.f3, x.f4, x.f5))
theorem k125_open {w : World} {x : S125} {cs : List Value} (h : k125.K w x cs) : ∃ A1 c1, cs = [.string x.f0, .slice A1 x.f1.length c1, .int .i64 x.f2, .int .i64 x.f3, .int .i64 x.f4, .string x.f5] ∧ x.f1.length ≤ c1 ∧ Kd.string.C w A1 x.f1.length x.f1 := by
 obtain ⟨_, _, rfl, rfl, ⟨_, _, rfl, ⟨A1, c1, rfl, l1, g1⟩, ⟨_, _, rfl, rfl, ⟨_, _, rfl, rfl, ⟨_, _, rfl, rfl, rfl⟩⟩⟩⟩⟩ := h
 exact ⟨A1, c1, rfl, l1, g1⟩
theorem k125_mkM (w : World) (base : Nat) (ok : Nat → Prop) (x : S125) {v1 : Value} (g1 : Kd.string.R 9 w base ok v1 x.f1) : k125.M w base ok x [.string x.f0, v1, .int .i64 x.f2, .int .i64 x.f3, .int .i64 x.f4, .string x.f5] := ⟨[.string x.f0], [v1, .int .i64 x.f2, .int .i64 x.f3, .int .i64 x.f4, .string x.f5], rfl, rfl, ⟨[v1], [.int .i64 x.f2, .int .i64 x.f3, .int .i64 x.f4, .string x.f5], rfl, ⟨v1, rfl, g1⟩, ⟨[.int .i64 x.f2], [.int .i64 x.f3, .int .i64 x.f4, .string x.f5], rfl, rfl, ⟨[.int .i64 x.f3], [.int .i64 x.f4, .string x.f5], rfl, rfl, ⟨[.int .i64 x.f4], [.string x.f5], rfl, rfl, rfl⟩⟩⟩⟩⟩
def rd_T125 (xs : List S125) (i : Int) : S125 := xs.getD i.toNat z125
theorem at_T125 {w : World} {A : Option Addr} {n : Nat} {xs : List S125} (h : Kd.C k125 w A n xs) (i : Int) (h0 : 0 ≤ i) (h1 : i < n) : ∃ ad A1 c1, A = some ad ∧ w.cell? (ad.add (i.toNat * 6)) = some (.string (rd_T125 xs i).f0) ∧ w.cell? ⟨(ad.add (i.toNat * 6)).block, (ad.add (i.toNat * 6)).off + 1, none⟩ = some (.slice A1 (rd_T125 xs i).f1.length c1) ∧ w.cell? ⟨(ad.add (i.toNat * 6)).block, (ad.add (i.toNat * 6)).off + 2, none⟩ = some (.int .i64 (rd_T125 xs i).f2) ∧ w.cell? ⟨(ad.add (i.toNat * 6)).block, (ad.add (i.toNat * 6)).off + 3, none⟩ = some (.int .i64 (rd_T125 xs i).f3) ∧ w.cell? ⟨(ad.add (i.toNat * 6)).block, (ad.add (i.toNat * 6)).off + 4, none⟩ = some (.int .i64 (rd_T125 xs i).f4) ∧ w.cell? ⟨(ad.add (i.toNat * 6)).block, (ad.add (i.toNat * 6)).off + 5, none⟩ = some (.string (rd_T125 xs i).f5) ∧ (rd_T125 xs i).f1.length ≤ c1 ∧ Kd.string.C w A1 (rd_T125 xs i).f1.length (rd_T125 xs i).f1 := by
 obtain ⟨ad, c, e, _, hK, hc0⟩ := Kd.C_get h z125 i h0 h1
 have hc : ∀ j u, c[j]? = some u → w.cell? (ad.add (i.toNat * 6 + j)) = some u := hc0
 obtain ⟨A1, c1, rfl, l1, g1⟩ := k125_open hK
 exact ⟨ad, A1, c1, e, hc 0 _ rfl, by rw [← add_field _ _ 1 (by omega)]; exact hc 1 _ rfl, by rw [← add_field _ _ 2 (by omega)]; exact hc 2 _ rfl, by rw [← add_field _ _ 3 (by omega)]; exact hc 3 _ rfl, by rw [← add_field _ _ 4 (by omega)]; exact hc 4 _ rfl, by rw [← add_field _ _ 5 (by omega)]; exact hc 5 _ rfl, l1, g1⟩

/-! #### struct type 121 -/
structure S121 where
 f0 : ByteArray
 f1 : (List ByteArray)
 f2 : Int
 f3 : Int
 f4 : Int
 f5 : ByteArray
def z121 : S121 := ⟨(⟨#[]⟩ : ByteArray), ([] : List ByteArray), (0 : Int), (0 : Int), (0 : Int), (⟨#[]⟩ : ByteArray)⟩
def k121 : Kd S121 := Kd.iso (Kd.pair Kd.string (Kd.pair (Kd.slice 9 Kd.string) (Kd.pair (Kd.int .i64) (Kd.pair (Kd.int .i64) (Kd.pair (Kd.int .i64) Kd.string))))) (fun x : S121 => (x.f0, x.f1, x.f2, x.f3, x.f4, x.f5))
theorem k121_heap : Kd.Heap k121 := Kd.heap_iso _ (Kd.heap_pair Kd.heap_string (Kd.heap_pair (Kd.heap_slice 9 Kd.heap_string) (Kd.heap_pair (Kd.heap_int .i64) (Kd.heap_pair (Kd.heap_int .i64) (Kd.heap_pair (Kd.heap_int .i64) Kd.heap_string)))))
theorem k121_open {w : World} {x : S121} {cs : List Value} (h : k121.K w x cs) : ∃ A1 c1, cs = [.string x.f0, .slice A1 x.f1.length c1, .int .i64 x.f2, .int .i64 x.f3, .int .i64 x.f4, .string x.f5] ∧ x.f1.length ≤ c1 ∧ Kd.string.C w A1 x.f1.length x.f1 := by
 obtain ⟨_, _, rfl, rfl, ⟨_, _, rfl, ⟨A1, c1, rfl, l1, g1⟩, ⟨_, _, rfl, rfl, ⟨_, _, rfl, rfl, ⟨_, _, rfl, rfl, rfl⟩⟩⟩⟩⟩ := h
 exact ⟨A1, c1, rfl, l1, g1⟩
theorem k121_mk (w : World) (x : S121) {A1 : Option Addr} {c1 : Nat} (l1 : x.f1.length ≤ c1) (g1 : Kd.string.C w A1 x.f1.length x.f1) : k121.K w x [.string x.f0, .slice A1 x.f1.length c1, .int .i64 x.f2, .int .i64 x.f3, .int .i64 x.f4, .string x.f5] := ⟨[.string x.f0], [.slice A1 x.f1.length c1, .int .i64 x.f2, .int .i64 x.f3, .int .i64 x.f4, .string x.f5], rfl, rfl, ⟨[.slice A1 x.f1.length c1], [.int .i64 x.f2, .int .i64 x.f3, .int .i64 x.f4, .string x.f5], rfl, ⟨A1, c1, rfl, l1, g1⟩, ⟨[.int .i64 x.f2], [.int .i64 x.f3, .int .i64 x.f4, .string x.f5], rfl, rfl, ⟨[.int .i64 x.f3], [.int .i64 x.f4, .string x.f5], rfl, rfl, ⟨[.int .i64 x.f4], [.string x.f5], rfl, rfl, rfl⟩⟩⟩⟩⟩
theorem k121_openF {W : World} {ok : Nat → Prop} {x : S121} {cs : List Value} (h : Kd.FK k121 W ok x cs) : ∃ A1 c1, cs = [.string x.f0, .slice A1 x.f1.length c1, .int .i64 x.f2, .int .i64 x.f3, .int .i64 x.f4, .string x.f5] ∧ x.f1.length ≤ c1 ∧ Kd.F Kd.string W ok A1 x.f1.length x.f1 := by
 obtain ⟨A1, c1, rfl, l1, _⟩ := k121_open (Kd.FK_now h)
 exact ⟨A1, c1, rfl, l1, (fun W' hW => by obtain ⟨A1_, c1_, he, l1_, g1_⟩ := k121_open (h W' hW); injection (Option.some.inj (show some (Value.slice A1 x.f1.length c1) = some (Value.slice A1_ x.f1.length c1_) from congrArg (fun l => l[1]?) he)) with ha_ _ _; rw [ha_]; exact g1_)⟩
theorem k121_mkF (W : World) (ok : Nat → Prop) (x : S121) {A1 : Option Addr} {c1 : Nat} (l1 : x.f1.length ≤ c1) (g1 : Kd.F Kd.string W ok A1 x.f1.length x.f1) : Kd.FK k121 W ok x [.string x.f0, .slice A1 x.f1.length c1, .int .i64 x.f2, .int .i64 x.f3, .int .i64 x.f4, .string x.f5] := fun W2 hW => k121_mk W2 x l1 (g1 W2 hW)
def rd_T121 (xs : List S121) (i : Int) : S121 := xs.getD i.toNat z121
theorem at_T121 {w : World} {A : Option Addr} {n : Nat} {xs : List S121} (h : Kd.C k121 w A n xs) (i : Int) (h0 : 0 ≤ i) (h1 : i < n) : ∃ ad A1 c1, A = some ad ∧ w.cell? (ad.add (i.toNat * 6)) = some (.string (rd_T121 xs i).f0) ∧ w.cell? ⟨(ad.add (i.toNat * 6)).block, (ad.add (i.toNat * 6)).off + 1, none⟩ = some (.slice A1 (rd_T121 xs i).f1.length c1) ∧ w.cell? ⟨(ad.add (i.toNat * 6)).block, (ad.add (i.toNat * 6)).off + 2, none⟩ = some (.int .i64 (rd_T121 xs i).f2) ∧ w.cell? ⟨(ad.add (i.toNat * 6)).block, (ad.add (i.toNat * 6)).off + 3, none⟩ = some (.int .i64 (rd_T121 xs i).f3) ∧ w.cell? ⟨(ad.add (i.toNat * 6)).block, (ad.add (i.toNat * 6)).off + 4, none⟩ = some (.int .i64 (rd_T121 xs i).f4) ∧ w.cell? ⟨(ad.add (i.toNat * 6)).block, (ad.add (i.toNat * 6)).off + 5, none⟩ = some (.string (rd_T121 xs i).f5) ∧ (rd_T121 xs i).f1.length ≤ c1 ∧ Kd.string.C w A1 (rd_T121 xs i).f1.length (rd_T121 xs i).f1 := by
 obtain ⟨ad, c, e, _, hK, hc0⟩ := Kd.C_get h z121 i h0 h1
 have hc : ∀ j u, c[j]? = some u → w.cell? (ad.add (i.toNat * 6 + j)) = some u := hc0
 obtain ⟨A1, c1, rfl, l1, g1⟩ := k121_open hK
 exact ⟨ad, A1, c1, e, hc 0 _ rfl, by rw [← add_field _ _ 1 (by omega)]; exact hc 1 _ rfl, by rw [← add_field _ _ 2 (by omega)]; exact hc 2 _ rfl, by rw [← add_field _ _ 3 (by omega)]; exact hc 3 _ rfl, by rw [← add_field _ _ 4 (by omega)]; exact hc 4 _ rfl, by rw [← add_field _ _ 5 (by omega)]; exact hc 5 _ rfl, l1, g1⟩

/-! #### struct type 147 -/
structure S147 where
 f0 : Int
 f1 : Int
 f2 : ByteArray
 f3 : Int
end Go.Proofs.Ytjicfkmpgogppaa.PA
namespace Go.Proofs.Ytjicfkmpgogppaa.Mt
set_option linter.unusedVariables false
set_option linter.unusedSimpArgs false
open Go Go.RowKit Go.Proofs.Ytjicfkmpgogppaa.PA Go.Proofs.YtjicfkmpgogppaaW.PrintWords Go.Proofs.YtjicfkmpgogppaaW.PrintLast Go.Proofs.YtjicfkmpgogppaaW.PrintMore
abbrev fault (c : Int) : PanicEntry := { v := .iface 179 (.int .i64 c), recovered := false }
set_option maxHeartbeats 4000000 in
set_option maxRecDepth 100000 in
theorem must_ok (w : World) : Calls Try.prog 99 #[.int .i64 0] w fun e w' => e = .returned (.tuple #[]) ∧ w' = w := by
  go_enter Try.func99, Try.ntmps99
  go_wp2
  go_end0
  exact ⟨rfl, rfl⟩
set_option maxHeartbeats 4000000 in
set_option maxRecDepth 100000 in
theorem must_bad (c : Int) (h : c ≠ 0) (w : World) : Calls Try.prog 99 #[.int .i64 c] w fun e w' => e = .panicked [fault c] ∧ w' = w := by
  have e1 : (c != 0) = true := bne_iff_ne.mpr h
  go_enter Try.func99, Try.ntmps99
  go_wp2
  exact ⟨rfl, rfl, rfl⟩
end Go.Proofs.Ytjicfkmpgogppaa.Mt
-- printed by a program of this session out of the translation; see NOTES.md
namespace Go.Proofs.Ytjicfkmpgogppaa.PA
open Go.RowKit Go.Proofs.YtjicfkmpgogppaaW.PrintWords Go.Proofs.YtjicfkmpgogppaaW.PrintLast Go.Proofs.YtjicfkmpgogppaaW.PrintMore Go.Proofs.YtjicfkmpgogppaaRb
attribute [local go_sem] max2_int min2_int max_two min_two max_three min_three max_four min_four   -- for this text's walks alone
set_option linter.unusedVariables false
set_option linter.unusedSimpArgs false

/-! ### pack_Value_77: function 77 -/
def pack_Value_77.f (l0 : List (S54)) : Option ((List (S54))) := (some (([] : List (S54)) : List (S54))).bind fun y101 => (if y101.length + l0.length < 2513169434916 then (some (y101 ++ l0)) else (none))
set_option maxHeartbeats 8000000 in
set_option maxRecDepth 100000 in
theorem pack_Value_77.calls (P0_ : Nat → Prop) (A0 : Option Addr) (c0 : Nat) (l0 : List (S54)) (r : List (S54)) (w : World) (hs0 : Kd.V k54 54 w w.heap.size (fun k_ => P0_ k_) (.slice A0 l0.length c0) l0) (h : pack_Value_77.f l0 = some r) :
  Calls Try.prog 77 #[.slice A0 l0.length c0] w fun e w' => ∃ v0_ : Value, e = .returned (v0_) ∧ Kd.N k54 54 w' w.heap.size (fun k_ => (P0_ k_ ∨ w.heap.size ≤ k_)) v0_ r ∧ Below w.heap.size w w' := by
 have hq_ := fun w => Go.run_eql_slice_nil (P := Try.prog) w 52 54 A0 l0.length c0 Try.underlying52
 by_cases hA_ : A0 = none
 ·have hz_ := (Kd.V_reads' hs0).2.2
  obtain rfl : l0 = [] := by
   rcases Nat.eq_zero_or_pos l0.length with h0_ | h0_
   ·exact List.length_eq_zero_iff.mp h0_
   ·obtain ⟨ad_, had_, _⟩ := hz_.2.2 h0_; rw [hA_] at had_; cases had_
  obtain rfl : r = [] := by simpa [pack_Value_77.f] using h.symm
  subst hA_
  have hn_ : (none : Option Addr).isNone = true := rfl
  have hq2_ := fun w => Go.run_eql_slice_nil (P := Try.prog) w 52 54 none 0 c0 Try.underlying52
  clear hz_ h
  go_enter Try.func77, Try.ntmps77
  go_wp2
  go_ret
  exact ⟨_, rfl, Kd.N_nil _ _ _ _ _, Below.refl _ _⟩
 have hn_ : A0.isNone = false := by cases A0 with | none => exact absurd rfl hA_ | some _ => rfl
 clear hA_
 have HO0 := Aside0.mk (show Kd.V k54 54 w w.heap.size (fun k_ => (P0_ k_ ∨ w.heap.size ≤ k_)) (.slice A0 l0.length c0) l0 from Kd.V_mono hs0 (fun k_ hk => .inl hk))
 have HB := Aside0.mk (Below.refl w.heap.size w)
 have H : ((some (([] : List (S54)) : List (S54))).bind fun y101 => (if y101.length + l0.length < 2513169434916 then (some (y101 ++ l0)) else (none))) = some r := h
 clear h
 obtain ⟨y101, hy101⟩ : ∃ y_ : List (S54), y_ = (([] : List (S54))) := ⟨_, rfl⟩
 replace H : (if y101.length + l0.length < 2513169434916 then (some (y101 ++ l0)) else (none)) = some r := by first | (rw [hy101]; with_reducible exact H) | (have H2_ := (Option.bind_some _ _).symm.trans H; rw [hy101]; with_reducible exact H2_) | (have H2_ := (Option.bind_some _ _).symm.trans H; with_reducible exact H2_) | with_reducible exact H | (rw [hy101]; exact H) | exact H
 have Ny101 := Aside0.mk hy101
 clear hy101
 by_cases c2 : y101.length + l0.length < 2513169434916
 ·rw [if_pos c2] at H
  have LMc2 := Aside0.mk c2
  clear c2
  obtain ⟨y104, hy104⟩ : ∃ y_ : List (S54), y_ = (y101 ++ l0) := ⟨_, rfl⟩
  replace H : (some y104) = some r := by first | (rw [hy104]; with_reducible exact H) | (have H2_ := (Option.bind_some _ _).symm.trans H; rw [hy104]; with_reducible exact H2_) | (have H2_ := (Option.bind_some _ _).symm.trans H; with_reducible exact H2_) | with_reducible exact H | (rw [hy104]; exact H) | exact H
  have Ny104 := Aside0.mk hy104
  clear hy104
  obtain rfl := Option.some.inj H
  go_enter Try.func77, Try.ntmps77
  go_wp2_with (first | ((with_reducible refine gate_dst (N := 5) rfl ?_); refine Kd.N_lit k54 _ 54 ?hg (N' := 5) ?hd (xs := ([] : List (S54))) (inner := []) (ok := (fun k_ => (P0_ k_ ∨ w.heap.size ≤ k_))) (okp := (fun k_ => (P0_ k_ ∨ w.heap.size ≤ k_))) ?hr ?hp (fun _ hk => hk) ((show ∀ k_, w.heap.size ≤ k_ → (fun k_ => (P0_ k_ ∨ w.heap.size ≤ k_)) k_ from fun k_ hk => (.inr (Nat.le_trans (below_size bb) hk))) _ (Nat.le_refl _)) (Below.refl _ _) (Nat.le_refl _) (by simp) ?_; (case hd => rfl); (case hg => rfl); (case hr => first | (go_simp; done) | (go_simp; rfl)); (case hp => exact (Reps.none _ _)); intro v102 w3 ho4 hb hg_ hnew_; clear hg_ hnew_; (first | rw [← Ny101.out] at ho4 | (simp only [Int.reduceToNat] at ho4; rw [← Ny101.out] at ho4)); have n0_ := Aside0.mk (Kd.V_elder' (by (with_reducible repeat (first | apply Kd.V_alloc | apply Kd.V_drewN | apply Kd.V_drew)); exact HO0.out) (by first | exact Kd.N_base ho4 | exact Kd.N_base (Kd.R_N ho4) | exact Kd.N_base (Kd.S_N ho4)) hb); have n1_ := Aside0.mk (Kd.N_lower ho4 (below_size bb)); have n2_ := Aside0.mk (below_step bb hb); clear HO0; clear HB; have HO0 := n0_; have HO103 := n1_; have HB := n2_; clear n0_ n1_ n2_; clear hb ho4) | ((with_reducible refine gate_builtin (b := .append) (xs := #[.tmp 5, .tmp 6]) rfl ?_); at_builtin; refine Kd.N_append_rows k54 (w0 := w) w.heap.size rfl (.tmp 5) (.tmp 6) 52 54 (.agg #[(.int .i64 0), (.int .i64 0), (.string ⟨#[]⟩), (.slice none 0 0)]) 56 rfl Try.underlying52 info54 rfl (by decide) (by omega) v102 y101 l0 _ _ _ (fun k_ => (P0_ k_ ∨ w.heap.size ≤ k_)) (fun k_ => ((fun k_ => (P0_ k_ ∨ w.heap.size ≤ k_))) k_ ∧ some k_ ≠ (v102 : Value).ownBlock) rfl rfl ?aO ?aR (fun _ hk => hk) ?aF ?aB ?aS ?aL ?_; (case aR => exact (by skip; exact Kd.V_F (Kd.V_mono (ok' := (fun k_ => ((fun k_ => (P0_ k_ ∨ w.heap.size ≤ k_))) k_ ∧ some k_ ≠ (v102 : Value).ownBlock)) (HO0.out) (fun k_ hk => ⟨hk.1, hk.2⟩)))); (case aB => exact bb); (case aF => exact (fun k_ hk => (.inr (Nat.le_trans (below_size bb) hk)))); (case aO => exact (kN HO103.out)); (case aS => exact (below_size bb)); (case aL => have := LMc2.out; omega); intro v105 w5 ho hb hg hat; rw [← Ny104.out] at ho; have n0_ := Aside0.mk (Kd.V_afterv (ok := (fun k_ => (P0_ k_ ∨ w.heap.size ≤ k_))) (by (with_reducible repeat (first | apply Kd.V_alloc | apply Kd.V_drewN | apply Kd.V_drew)); exact HO0.out) hg hat); have n1_ := Aside0.mk (hb); have n2_ := Aside0.mk (ho); clear HO0; clear HB; clear HO103; have HO0 := n0_; have HB := n1_; have HO106 := n2_; clear n0_ n1_ n2_; clear ho hb hg hat))
  go_ret
  exact ⟨_, by first | rfl | (simp [errW_none, errW_some] <;> rfl) | (simp [*, errW_none, errW_some] <;> rfl), kN HO106.out, bb⟩
 ·rw [if_neg c2] at H
  exact absurd H (by simp)

/-! ### pack_All: function 40 -/
def pack_All.f (l0 : List (S54)) : Option (Int × Int × ByteArray × (List (S54))) := (pack_Value_77.f l0).bind fun t108 => (some (2, 0, (⟨#[]⟩ : ByteArray), t108))
set_option maxHeartbeats 8000000 in
set_option maxRecDepth 100000 in
theorem pack_All.calls (P0_ : Nat → Prop) (A0 : Option Addr) (c0 : Nat) (l0 : List (S54)) (r1 : Int) (r2 : Int) (r3 : ByteArray) (r4 : List (S54)) (w : World) (hs0 : Kd.V k54 54 w w.heap.size (fun k_ => P0_ k_) (.slice A0 l0.length c0) l0) (h : pack_All.f l0 = some (r1, r2, r3, r4)) :
  Calls Try.prog 40 #[.slice A0 l0.length c0] w fun e w' => ∃ v3_ : Value, e = .returned (.agg #[.int .i64 r1, .int .i64 r2, .string r3, v3_]) ∧ Kd.N k54 54 w' w.heap.size (fun k_ => (P0_ k_ ∨ w.heap.size ≤ k_)) v3_ r4 ∧ Below w.heap.size w w' := by
 have hu54 := Try.underlying54
 have HO0 := Aside0.mk (show Kd.V k54 54 w w.heap.size (fun k_ => (P0_ k_ ∨ w.heap.size ≤ k_)) (.slice A0 l0.length c0) l0 from Kd.V_mono hs0 (fun k_ hk => .inl hk))
 have HB := Aside0.mk (Below.refl w.heap.size w)
 have H : ((pack_Value_77.f l0).bind fun t108 => (some (2, 0, (⟨#[]⟩ : ByteArray), t108))) = some (r1, r2, r3, r4) := h
 clear h
 replace H := Option.bind_eq_some_iff.mp H
 obtain ⟨t108, A20, H⟩ := H
 replace H : (some (2, 0, (⟨#[]⟩ : ByteArray), t108)) = some (r1, r2, r3, r4) := H
 have A2 := Aside0.mk A20
 clear A20
 simp only [Option.some.injEq, Prod.mk.injEq] at H
 obtain ⟨rfl, rfl, rfl, rfl⟩ := H
 go_enter Try.func40, Try.ntmps40
 go_wp2_with (first | ((with_reducible refine gate_dst (N := 2) rfl ?_); refine box_event ?hg (N := 2) ?hd (cs := #[.int .i64 0, .int .i64 0, .string (⟨#[]⟩ : ByteArray), .slice none 0 0]) (t := 54) ?hr ?_; (case hd => rfl); (case hg => rfl); (case hr => first | (go_simp; done) | (go_simp; rfl)); intro gb107 hg w3 hbox hb; have n0_ := Aside0.mk (Kd.V_below (Kd.V_elderB (by (with_reducible repeat (first | apply Kd.V_alloc | apply Kd.V_drewN | apply Kd.V_drew)); exact HO0.out) gb107 (Nat.le_of_eq hg.symm)) hb); have n1_ := Aside0.mk (below_step bb hb); have n2_ := Aside0.mk (hbox); have n3_ := Aside0.mk ((by rw [hg]; exact (below_size bb) : w.heap.size ≤ gb107)); have n4_ := Aside0.mk ((by rw [hg]; exact (below_size bb) : w.heap.size ≤ gb107)); clear HO0; clear HB; have HO0 := n0_; have HB := n1_; have BK107 := n2_; have GW107 := n3_; have GE107 := n4_; clear n0_ n1_ n2_ n3_ n4_; clear hb hbox hg) | ((with_reducible refine gate_callee (f := 77) rfl ?_); refine goesL_ (some 4) rfl rfl Try.func77 (by kernel_rfl) rfl #[.slice A0 l0.length c0] rfl ag ?_; (with_reducible refine (pack_Value_77.calls (fun k_ => ((P0_ k_ ∨ w.heap.size ≤ k_) ∧ k_ ≠ gb107)) _ _ l0 t108 _ ?side1 A2.out).mono ?_); (case side1 => exact HO0.out); rintro e w4 ⟨v109, rfl, ho0, hb⟩; refine ⟨_, rfl, ?_⟩; have n0_ := Aside0.mk (Kd.V_elder' (by (with_reducible repeat (first | apply Kd.V_alloc | apply Kd.V_drewN | apply Kd.V_drew)); exact HO0.out) (by first | exact Kd.N_base ho0 | exact Kd.N_base (Kd.R_N ho0) | exact Kd.N_base (Kd.S_N ho0)) hb); have n1_ := Aside0.mk (Kd.N_lower (Kd.N_mono (ok' := fun k_ => (P0_ k_ ∨ w.heap.size ≤ k_) ∧ k_ ≠ gb107) ho0 (fun k_ hk_ => ⟨Or.elim hk_ (fun hs_ => hs_.1) (fun hn_ => (.inr (Nat.le_trans (below_size bb) hn_))), Or.elim hk_ (fun hs_ => hs_.2) (fun hn_ => (Kd.freshB (g := gb107) (o := .cells #[.int .i64 0, .int .i64 0, .string (⟨#[]⟩ : ByteArray), .slice none 0 0] 54 (0, 0)) (rb BK107.out) k_ hn_))⟩)) (below_size bb)); have n2_ := Aside0.mk (blk_below (g := gb107) (o := .cells #[.int .i64 0, .int .i64 0, .string (⟨#[]⟩ : ByteArray), .slice none 0 0] 54 (0, 0)) (rb BK107.out) hb); have n3_ := Aside0.mk (below_step bb hb); clear HO0; clear BK107; clear HB; have HO0 := n0_; have HO110 := n1_; have BK107 := n2_; have HB := n3_; clear n0_ n1_ n2_ n3_; (try clear hb); (try clear hb2); (try clear hk); (try clear hi); (try clear ho0); obtain ⟨Ao5, co5, eo5⟩ := Kd.N_slice HO110.out; subst eo5; have hcz6_0 : w4.cell? ⟨gb107, 0, none⟩ = some (.int .i64 0) := (blk_cell BK107.out 0).trans rfl; have hcz6_1 : w4.cell? ⟨gb107, 1, none⟩ = some (.int .i64 0) := (blk_cell BK107.out 1).trans rfl; have hcz6_2 : w4.cell? ⟨gb107, 2, none⟩ = some (.string (⟨#[]⟩ : ByteArray)) := (blk_cell BK107.out 2).trans rfl; have hcz6_3 : w4.cell? ⟨gb107, 3, none⟩ = some (.slice none 0 0) := (blk_cell BK107.out 3).trans rfl; have hfz6_0 := blk_frozen BK107.out 0; have hfz6_1 := blk_frozen BK107.out 1; have hfz6_2 := blk_frozen BK107.out 2; have hfz6_3 := blk_frozen BK107.out 3))
 refine bodyPost_ret (results_cell_row rfl _ _ gb107 54 #[.int .i64 2, .int .i64 0, .string (⟨#[]⟩ : ByteArray), .slice Ao5 t108.length co5] (0, 0) _ rfl (rb (blk_put (cs := #[.int .i64 2, .int .i64 0, .string (⟨#[]⟩ : ByteArray), .slice none 0 0]) (rb (blk_put (cs := #[.int .i64 2, .int .i64 0, .string (⟨#[]⟩ : ByteArray), .slice none 0 0]) (rb (blk_put (cs := #[.int .i64 2, .int .i64 0, .string (⟨#[]⟩ : ByteArray), .slice none 0 0]) (rb (blk_put (cs := #[.int .i64 0, .int .i64 0, .string (⟨#[]⟩ : ByteArray), .slice none 0 0]) (rb BK107.out) 0 _ rfl)) 1 _ rfl)) 2 _ rfl)) 3 _ rfl)) Try.underlying54 rfl (by kernel_rfl)) rfl ?_
 exact ⟨_, by first | rfl | (simp [errW_none, errW_some] <;> rfl) | (simp [*, errW_none, errW_some] <;> rfl), kN (Kd.N_mono (Kd.N_far (p := ⟨gb107, 3, none⟩) (Kd.N_far (p := ⟨gb107, 2, none⟩) (Kd.N_far (p := ⟨gb107, 1, none⟩) (Kd.N_far (p := ⟨gb107, 0, none⟩) (Kd.N_mono HO110.out (fun k_ hk => (⟨hk, hk.2⟩ : _ ∧ k_ ≠ gb107))) (fun _ hk => hk.2) (.int .i64 2)) (fun _ hk => hk.2) (.int .i64 0)) (fun _ hk => hk.2) (.string (⟨#[]⟩ : ByteArray))) (fun _ hk => hk.2) (.slice Ao5 t108.length co5)) (fun _ hk => hk.1.1)), bb⟩

/-! ### pack_Num: function 48 -/
def pack_Num.f (a0 : Int) : Option (Int × Int × ByteArray × (List (S54))) := some (0, a0, (⟨#[]⟩ : ByteArray), ([] : List (S54)))
set_option maxHeartbeats 8000000 in
set_option maxRecDepth 100000 in
theorem pack_Num.calls (a0 : Int) (r1 : Int) (r2 : Int) (r3 : ByteArray) (r4 : List (S54)) (w : World) (h : pack_Num.f a0 = some (r1, r2, r3, r4)) :
  Calls Try.prog 48 #[.int .i64 a0] w fun e w' => ∃ v3_ : Value, e = .returned (.agg #[.int .i64 r1, .int .i64 r2, .string r3, v3_]) ∧ Kd.R k54 54 w' w.heap.size (fun _ => True) v3_ r4 ∧ Below w.heap.size w w' := by
 have hu54 := Try.underlying54
 have HB := Aside0.mk (Below.refl w.heap.size w)
 have H : (some (0, a0, (⟨#[]⟩ : ByteArray), ([] : List (S54)))) = some (r1, r2, r3, r4) := h
 clear h
 simp only [Option.some.injEq, Prod.mk.injEq] at H
 obtain ⟨rfl, rfl, rfl, rfl⟩ := H
 go_enter Try.func48, Try.ntmps48
 go_wp2_with (first | ((with_reducible refine gate_dst (N := 2) rfl ?_); refine box_event ?hg (N := 2) ?hd (cs := #[.int .i64 0, .int .i64 0, .string (⟨#[]⟩ : ByteArray), .slice none 0 0]) (t := 54) ?hr ?_; (case hd => rfl); (case hg => rfl); (case hr => first | (go_simp; done) | (go_simp; rfl)); intro gb111 hg w2 hbox hb; have n0_ := Aside0.mk (below_step bb hb); have n1_ := Aside0.mk (hbox); have n2_ := Aside0.mk ((by rw [hg]; exact (below_size bb) : w.heap.size ≤ gb111)); have n3_ := Aside0.mk ((by rw [hg]; exact (below_size bb) : w.heap.size ≤ gb111)); clear HB; have HB := n0_; have BK111 := n1_; have GW111 := n2_; have GE111 := n3_; clear n0_ n1_ n2_ n3_; clear hb hbox hg; have hcz3_0 : w2.cell? ⟨gb111, 0, none⟩ = some (.int .i64 0) := (blk_cell BK111.out 0).trans rfl; have hcz3_1 : w2.cell? ⟨gb111, 1, none⟩ = some (.int .i64 0) := (blk_cell BK111.out 1).trans rfl; have hcz3_2 : w2.cell? ⟨gb111, 2, none⟩ = some (.string (⟨#[]⟩ : ByteArray)) := (blk_cell BK111.out 2).trans rfl; have hcz3_3 : w2.cell? ⟨gb111, 3, none⟩ = some (.slice none 0 0) := (blk_cell BK111.out 3).trans rfl; have hfz3_0 := blk_frozen BK111.out 0; have hfz3_1 := blk_frozen BK111.out 1; have hfz3_2 := blk_frozen BK111.out 2; have hfz3_3 := blk_frozen BK111.out 3))
 refine bodyPost_ret (results_cell_row rfl _ _ gb111 54 #[.int .i64 0, .int .i64 a0, .string (⟨#[]⟩ : ByteArray), .slice none 0 0] (0, 0) _ rfl (rb (blk_put (cs := #[.int .i64 0, .int .i64 a0, .string (⟨#[]⟩ : ByteArray), .slice none 0 0]) (rb (blk_put (cs := #[.int .i64 0, .int .i64 a0, .string (⟨#[]⟩ : ByteArray), .slice none 0 0]) (rb (blk_put (cs := #[.int .i64 0, .int .i64 0, .string (⟨#[]⟩ : ByteArray), .slice none 0 0]) (rb (blk_put (cs := #[.int .i64 0, .int .i64 0, .string (⟨#[]⟩ : ByteArray), .slice none 0 0]) (rb BK111.out) 0 _ rfl)) 1 _ rfl)) 2 _ rfl)) 3 _ rfl)) Try.underlying54 rfl (by kernel_rfl)) rfl ?_
 exact ⟨_, by first | rfl | (simp [errW_none, errW_some] <;> rfl) | (simp [*, errW_none, errW_some] <;> rfl), kn, bb⟩

/-! ### pack_Str: function 64 -/
def pack_Str.f (a0 : ByteArray) : Option (Int × Int × ByteArray × (List (S54))) := some (1, 0, a0, ([] : List (S54)))
set_option maxHeartbeats 8000000 in
set_option maxRecDepth 100000 in
theorem pack_Str.calls (a0 : ByteArray) (r1 : Int) (r2 : Int) (r3 : ByteArray) (r4 : List (S54)) (w : World) (h : pack_Str.f a0 = some (r1, r2, r3, r4)) :
  Calls Try.prog 64 #[.string a0] w fun e w' => ∃ v3_ : Value, e = .returned (.agg #[.int .i64 r1, .int .i64 r2, .string r3, v3_]) ∧ Kd.R k54 54 w' w.heap.size (fun _ => True) v3_ r4 ∧ Below w.heap.size w w' := by
 have hu54 := Try.underlying54
 have HB := Aside0.mk (Below.refl w.heap.size w)
 have H : (some (1, 0, a0, ([] : List (S54)))) = some (r1, r2, r3, r4) := h
 clear h
 simp only [Option.some.injEq, Prod.mk.injEq] at H
 obtain ⟨rfl, rfl, rfl, rfl⟩ := H
 go_enter Try.func64, Try.ntmps64
 go_wp2_with (first | ((with_reducible refine gate_dst (N := 2) rfl ?_); refine box_event ?hg (N := 2) ?hd (cs := #[.int .i64 0, .int .i64 0, .string (⟨#[]⟩ : ByteArray), .slice none 0 0]) (t := 54) ?hr ?_; (case hd => rfl); (case hg => rfl); (case hr => first | (go_simp; done) | (go_simp; rfl)); intro gb112 hg w2 hbox hb; have n0_ := Aside0.mk (below_step bb hb); have n1_ := Aside0.mk (hbox); have n2_ := Aside0.mk ((by rw [hg]; exact (below_size bb) : w.heap.size ≤ gb112)); have n3_ := Aside0.mk ((by rw [hg]; exact (below_size bb) : w.heap.size ≤ gb112)); clear HB; have HB := n0_; have BK112 := n1_; have GW112 := n2_; have GE112 := n3_; clear n0_ n1_ n2_ n3_; clear hb hbox hg; have hcz3_0 : w2.cell? ⟨gb112, 0, none⟩ = some (.int .i64 0) := (blk_cell BK112.out 0).trans rfl; have hcz3_1 : w2.cell? ⟨gb112, 1, none⟩ = some (.int .i64 0) := (blk_cell BK112.out 1).trans rfl; have hcz3_2 : w2.cell? ⟨gb112, 2, none⟩ = some (.string (⟨#[]⟩ : ByteArray)) := (blk_cell BK112.out 2).trans rfl; have hcz3_3 : w2.cell? ⟨gb112, 3, none⟩ = some (.slice none 0 0) := (blk_cell BK112.out 3).trans rfl; have hfz3_0 := blk_frozen BK112.out 0; have hfz3_1 := blk_frozen BK112.out 1; have hfz3_2 := blk_frozen BK112.out 2; have hfz3_3 := blk_frozen BK112.out 3))
 refine bodyPost_ret (results_cell_row rfl _ _ gb112 54 #[.int .i64 1, .int .i64 0, .string a0, .slice none 0 0] (0, 0) _ rfl (rb (blk_put (cs := #[.int .i64 1, .int .i64 0, .string a0, .slice none 0 0]) (rb (blk_put (cs := #[.int .i64 1, .int .i64 0, .string (⟨#[]⟩ : ByteArray), .slice none 0 0]) (rb (blk_put (cs := #[.int .i64 1, .int .i64 0, .string (⟨#[]⟩ : ByteArray), .slice none 0 0]) (rb (blk_put (cs := #[.int .i64 0, .int .i64 0, .string (⟨#[]⟩ : ByteArray), .slice none 0 0]) (rb BK112.out) 0 _ rfl)) 1 _ rfl)) 2 _ rfl)) 3 _ rfl)) Try.underlying54 rfl (by kernel_rfl)) rfl ?_
 exact ⟨_, by first | rfl | (simp [errW_none, errW_some] <;> rfl) | (simp [*, errW_none, errW_some] <;> rfl), kn, bb⟩

/-! ### words_Fold: function 101 -/
def words_Fold.f (a0 : Int) : Option (Int) := some (Go.bits .xor .u64 (IntKind.u64.wrap (wrap64 (a0 * 2))) (IntKind.u64.wrap (a0 / 9223372036854775808)))
set_option maxHeartbeats 8000000 in
set_option maxRecDepth 100000 in
theorem words_Fold.calls (a0 : Int) (r : Int) (w : World) (h : words_Fold.f a0 = some r) :
  Calls Try.prog 101 #[.int .i64 a0] w fun e w' => e = .returned (.int .u64 r) ∧ Drawn0 w w' := by
 have H : (some (Go.bits .xor .u64 (IntKind.u64.wrap (wrap64 (a0 * 2))) (IntKind.u64.wrap (a0 / 9223372036854775808)))) = some r := h
 clear h
 obtain rfl := Option.some.inj H
 go_enter Try.func101, Try.ntmps101
 go_wp2
 go_ret
 exact ⟨by first | rfl | (simp; done) | (simp [*]; done), by repeat (first | exact Drawn0.refl _ | apply Drawn0.step)⟩

-- NOT PRINTED: function 118 (abi_NoEscape)

-- NOT PRINTED: function 114 (strings_Builder_copyCheck)

-- NOT PRINTED: function 102 (strings_Builder_WriteString)

end Go.Proofs.Ytjicfkmpgogppaa.PA
-- printed by a program of this session out of the translation; see NOTES.md
namespace Go.Proofs.Ytjicfkmpgogppaa.PA
open Go.RowKit Go.Proofs.YtjicfkmpgogppaaW.PrintWords Go.Proofs.YtjicfkmpgogppaaW.PrintLast Go.Proofs.YtjicfkmpgogppaaW.PrintMore Go.Proofs.YtjicfkmpgogppaaRb
attribute [local go_sem] max2_int min2_int max_two min_two max_three min_three max_four min_four   -- for this text's walks alone
set_option linter.unusedVariables false
set_option linter.unusedSimpArgs false

/-! ### words_Put: function 103 -/
def words_Put.l0 : Nat → Int → List Int → Int → Option (ByteArray)
 | 0, _, _, _ => none
 | k + 1, x1, x5, x6 => if x6 ≥ 0 then (if 0 ≤ (wrap64 (8 * x6)) then (if x5.length < 140737488355328 then (words_Put.l0 k x1 (x5 ++ [(shr .u64 x1 (wrap64 (8 * x6))) % 256]) (wrap64 (x6 - 1))) else (none)) else (none)) else (some (strOfNums x5))
def words_Put.f (k : Nat) (a0 : Int) (a1 : Int) : Option (ByteArray) := words_Put.l0 k a1 ([] : List Int) ((mx 0 (mn a0 8)) - 1)
theorem words_Put.mono_l : ∀ k, (∀ y0 y1 y2, LeO (words_Put.l0 k y0 y1 y2) (words_Put.l0 (k + 1) y0 y1 y2))
 | 0 => fun _ _ _ r h => by simp [words_Put.l0] at h
 | k + 1 => by
  have ih0 := words_Put.mono_l k
  ·intro y0 y1 y2
   unfold words_Put.l0
   repeat' first
   | (with_reducible exact ih0 _ _ _)
   | (with_reducible exact LeO.refl _)
   | (with_reducible exact LeO.none _)
   | (with_reducible refine LeO.ite ?_ ?_)
   | (with_reducible refine LeO.bind ?_ (fun _ => ?_))
   | exact ih0 _ _ _
   | exact LeO.none _
   | refine LeO.ite ?_ ?_
   | refine LeO.bind ?_ (fun _ => ?_)
theorem words_Put.mono : ∀ a0 a1 k, LeO (words_Put.f k a0 a1) (words_Put.f (k + 1) a0 a1) := by
 intro a0 a1 k
 have ih0 := words_Put.mono_l k
 unfold words_Put.f
 repeat' first
   | (with_reducible exact ih0 _ _ _)
   | (with_reducible exact LeO.refl _)
   | (with_reducible exact LeO.none _)
   | (with_reducible refine LeO.ite ?_ ?_)
   | (with_reducible refine LeO.bind ?_ (fun _ => ?_))
   | exact ih0 _ _ _
   | exact LeO.none _
   | refine LeO.ite ?_ ?_
   | refine LeO.bind ?_ (fun _ => ?_)
set_option maxHeartbeats 8000000 in
set_option maxRecDepth 100000 in
theorem words_Put.calls (k : Nat) (a0 : Int) (a1 : Int) (r : ByteArray) (w : World) (h : words_Put.f k a0 a1 = some r) :
  Calls Try.prog 103 #[.int .i64 a0, .int .u64 a1] w fun e w' => e = .returned (.string r) ∧ Below w.heap.size w w' := by
 have HB := Aside0.mk (Below.refl w.heap.size w)
 have H : (words_Put.l0 k a1 ([] : List Int) ((mx 0 (mn a0 8)) - 1)) = some r := h
 clear h
 obtain ⟨ji3, hji3⟩ : ∃ j_ : Int, (mn a0 8) = j_ := ⟨_, rfl⟩
 replace H : (words_Put.l0 k a1 ([] : List Int) ((mx 0 (ji3)) - 1)) = some r := by first | (rw [hji3] at H; exact H) | (simp only [hji3] at H ⊢; exact H)
 (try (have hji3h : ji3 ≤ 8 := by (rw [← hji3]; unfold mn; (repeat' split) <;> omega)))
 (try (have hji3g : ji3 ≤ 64 := by omega))
 have hji3_ : (if 8 < a0 then 8 else a0) = ji3 := hji3
 obtain ⟨ji4, hji4⟩ : ∃ j_ : Int, (mx 0 (ji3)) = j_ := ⟨_, rfl⟩
 replace H : (words_Put.l0 k a1 ([] : List Int) ((ji4) - 1)) = some r := by first | (rw [hji4] at H; exact H) | (simp only [hji4] at H ⊢; exact H)
 have hji4_ : (if 0 < (ji3) then (ji3) else 0) = ji4 := hji4
 have H' := Aside0.mk H
 clear H
 go_enter Try.func103, Try.ntmps103
 go_wp2
 go_loopg [5, 6] k (fun kq v5 v6 w' => ∃ (x5_1 : List Int) (x6_1 : Int), v6 = .int .i64 x6_1 ∧ Aside0 (words_Put.l0 kq a1 x5_1 x6_1 = some r) ∧ Aside0 (kq ≤ k) ∧ Aside0 (Kd.R (Kd.int .u8) 5 w' w.heap.size (fun _ => True) v5 x5_1) ∧ Aside0 (Below w.heap.size w w'))
 case atStart => exact ⟨(([] : List Int)), ((ji4) - 1), (by first | rfl | (simp; done) | (simp only [← hji4] <;> (first | rfl | simp)) | (simp [*]; done)), H', ⟨Nat.le_refl _⟩, ⟨kn⟩, ⟨bb⟩⟩
 case round =>
  clear H'
  try clear c1
  try clear p2
  obtain ⟨x5_1, x6_1, rfl, HA, HK1, HO_5, HB⟩ := hrel
  cases gk with
  | zero => exact absurd HA.out (by simp [words_Put.l0])
  | succ k1 =>
   have H := HA.out
   clear HA
   simp only [words_Put.l0] at H
   by_cases c5 : x6_1 ≥ 0
   ·rw [if_pos c5] at H
    have c5b0 : decide (0 ≤ x6_1) = true := decide_eq_true c5
    clear c5
    obtain ⟨ji6, hji6⟩ : ∃ j_ : Int, (wrap64 (8 * x6_1)) = j_ := ⟨_, rfl⟩
    replace H : (if 0 ≤ (ji6) then (if x5_1.length < 140737488355328 then (words_Put.l0 k1 a1 (x5_1 ++ [(shr .u64 a1 (ji6)) % 256]) (wrap64 (x6_1 - 1))) else (none)) else (none)) = some r := by first | (rw [hji6] at H; exact H) | (simp only [hji6] at H ⊢; exact H)
    have hji6w : (IntKind.i64.wrap (8 * x6_1)) = ji6 := (i64_w _).trans hji6
    by_cases c7 : 0 ≤ (ji6)
    ·rw [if_pos c7] at H
     have c7b0 := eq_true c7
     have c7b1 : decide (0 ≤ (ji6)) = true := decide_eq_true c7
     clear c7
     obtain ⟨ji8, hji8⟩ : ∃ j_ : Int, (shr .u64 a1 (ji6)) = j_ := ⟨_, rfl⟩
     replace H : (if x5_1.length < 140737488355328 then (words_Put.l0 k1 a1 (x5_1 ++ [(ji8) % 256]) (wrap64 (x6_1 - 1))) else (none)) = some r := by first | (rw [hji8] at H; exact H) | (simp only [hji8] at H ⊢; exact H)
     have hji8_ : (a1 / 2 ^ min (ji6).toNat 64) = ji8 := hji8
     have hji8z : (ji6) ≤ 64 → (a1 / 2 ^ (ji6).toNat) = ji8 := shr_small hji8
     by_cases c9 : x5_1.length < 140737488355328
     ·rw [if_pos c9] at H
      have LMc9 := Aside0.mk c9
      clear c9
      obtain ⟨y113, hy113⟩ : ∃ y_ : List Int, y_ = (x5_1 ++ [(ji8) % 256]) := ⟨_, rfl⟩
      replace H : (words_Put.l0 k1 a1 y113 (wrap64 (x6_1 - 1))) = some r := by first | (rw [hy113]; with_reducible exact H) | (have H2_ := (Option.bind_some _ _).symm.trans H; rw [hy113]; with_reducible exact H2_) | (have H2_ := (Option.bind_some _ _).symm.trans H; with_reducible exact H2_) | with_reducible exact H | (rw [hy113]; exact H) | exact H
      have Ny113 := Aside0.mk hy113
      clear hy113
      have H' := Aside0.mk H
      clear H
      go_wp2_with (first | ((with_reducible refine gate_builtin (b := .append) (xs := #[.tmp 15, .tmp 21]) rfl ?_); at_builtin; refine Kd.R_append (Kd.int .u8) (w0 := w) w.heap.size rfl (.tmp 15) (.tmp 21) 44 5 (.int .u8 0) 1 rfl Try.underlying44 info5 rfl (by decide) (by omega) u5 x5_1 ((ji8) % 256) [.int .u8 ((ji8) % 256)] (fun _ => True) (fun _ => False) rfl rfl ?aP (fun _ hk => hk.elim) ?aF ?aO ?aB ?aS ?aL ?_; (case aP => exact rfl); (case aB => exact bb); (case aF => exact (fun _ _ => trivial)); (case aO => exact (kR HO_5.out)); (case aS => exact (below_size bb)); (case aL => have := LMc9.out; omega); intro v114 w10 ho hb hg hat; rw [← Ny113.out] at ho; have n0_ := Aside0.mk (hb); have n1_ := Aside0.mk (ho); clear HB; clear HO_5; have HB := n0_; have HO115 := n1_; clear n0_ n1_; clear ho hb hg hat))
      go_roundg k1
      case measure => have := HK1.out; omega
      case rel => exact ⟨(y113), (wrap64 (x6_1 - 1)), (by first | rfl | (simp; done) | (simp [*]; done)), H', ⟨by have := HK1.out; omega⟩, ⟨kR HO115.out⟩, ⟨bb⟩⟩
     ·rw [if_neg c9] at H
      exact absurd H (by simp)
    ·rw [if_neg c7] at H
     exact absurd H (by simp)
   ·rw [if_neg c5] at H
    have c5b0 : decide (0 ≤ x6_1) = false := decide_eq_false c5
    clear c5
    obtain rfl := Option.some.inj H
    have hcv11 := own_string (P := Try.prog) Try.underlying44 Try.underlying5 Try.underlying9 (Kd.own_of_R HO_5.out)
    go_wp2
    go_ret
    exact ⟨by first | rfl | (simp [errW_none, errW_some] <;> rfl) | (simp only [← hji3, ← hji4]; first | rfl | (simp [errW_none, errW_some] <;> rfl)) | (simp [*, errW_none, errW_some] <;> rfl), bb⟩

/-! ### words_Text: function 104 -/
def words_Text.f (k : Nat) (a0 : ByteArray) : Option (ByteArray × Int) := if (a0.size : Int) > 65535 then (some ((⟨#[]⟩ : ByteArray), 5)) else ((words_Put.f k 2 (IntKind.u64.wrap ((a0.size : Int)))).bind fun t116 => (if t116.size + a0.size ≤ 9223372036854775807 then (some (t116 ++ a0, 0)) else (none)))
theorem words_Text.mono : ∀ a0 k, LeO (words_Text.f k a0) (words_Text.f (k + 1) a0) := by
 intro a0 k
 unfold words_Text.f
 repeat' first
   | (with_reducible exact words_Put.mono _ _ _)
   | (with_reducible exact LeO.refl _)
   | (with_reducible exact LeO.none _)
   | (with_reducible refine LeO.ite ?_ ?_)
   | (with_reducible refine LeO.bind ?_ (fun _ => ?_))
   | exact words_Put.mono _ _ _
   | exact LeO.none _
   | refine LeO.ite ?_ ?_
   | refine LeO.bind ?_ (fun _ => ?_)
set_option maxHeartbeats 8000000 in
set_option maxRecDepth 100000 in
theorem words_Text.calls (k : Nat) (a0 : ByteArray) (r1 : ByteArray) (r2 : Int) (w : World) (h : words_Text.f k a0 = some (r1, r2)) :
  Calls Try.prog 104 #[.string a0] w fun e w' => e = .returned (.tuple #[.string r1, .int .i64 r2]) ∧ Below w.heap.size w w' := by
 have HB := Aside0.mk (Below.refl w.heap.size w)
 have H : (if (a0.size : Int) > 65535 then (some ((⟨#[]⟩ : ByteArray), 5)) else ((words_Put.f k 2 (IntKind.u64.wrap ((a0.size : Int)))).bind fun t116 => (if t116.size + a0.size ≤ 9223372036854775807 then (some (t116 ++ a0, 0)) else (none)))) = some (r1, r2) := h
 clear h
 by_cases c2 : (a0.size : Int) > 65535
 ·rw [if_pos c2] at H
  have c2b0 : decide (65535 < (a0.size : Int)) = true := decide_eq_true c2
  have c2b1 : decide (65535 < a0.size) = true := decide_eq_true (by omega)
  clear c2
  simp only [Option.some.injEq, Prod.mk.injEq] at H
  obtain ⟨rfl, rfl⟩ := H
  go_enter Try.func104, Try.ntmps104
  go_wp2
  go_ret2
  exact ⟨by first | rfl | (simp [errW_none, errW_some] <;> rfl) | (simp [*, errW_none, errW_some] <;> rfl), bb⟩
 ·rw [if_neg c2] at H
  have c2b0 : decide (65535 < (a0.size : Int)) = false := decide_eq_false c2
  have c2b1 : decide (65535 < a0.size) = false := decide_eq_false (by omega)
  clear c2
  replace H := Option.bind_eq_some_iff.mp H
  obtain ⟨t116, A30, H⟩ := H
  replace H : (if t116.size + a0.size ≤ 9223372036854775807 then (some (t116 ++ a0, 0)) else (none)) = some (r1, r2) := H
  have A3 := Aside0.mk A30
  clear A30
  have hw_ : IntKind.u64.wrap ((a0.size : Int)) = (a0.size : Int) := by have hg_ := of_decide_eq_false c2b0; simp [IntKind.wrap, IntKind.bits, IntKind.signed]; omega
  rw [hw_] at A3
  clear hw_
  by_cases c4 : t116.size + a0.size ≤ 9223372036854775807
  ·rw [if_pos c4] at H
   have c4b0 := eq_true c4
   have c4b1 : decide (t116.size + a0.size ≤ 9223372036854775807) = true := decide_eq_true c4
   try have c4b2 : (9223372036854775807 < t116.size + a0.size) = False := eq_false (Nat.not_lt.2 c4)
   simp only [Option.some.injEq, Prod.mk.injEq] at H
   obtain ⟨rfl, rfl⟩ := H
   go_enter Try.func104, Try.ntmps104
   go_wp2_with (first | ((with_reducible refine gate_callee (f := 103) rfl ?_); refine goesL_ (some 10) rfl rfl Try.func103 (by kernel_rfl) rfl #[.int .i64 2, .int .u64 ((a0.size : Int))] rfl ag ?_; (with_reducible refine (words_Put.calls k 2 ((a0.size : Int)) t116 _ A3.out).mono ?_); rintro e w5 ⟨rfl, hb⟩; refine ⟨_, rfl, ?_⟩; have n0_ := Aside0.mk (below_step bb hb); clear HB; have HB := n0_; clear n0_; (try clear hb); (try clear hb2); (try clear hk); (try clear hi)))
   go_ret2
   exact ⟨by first | rfl | (simp [errW_none, errW_some] <;> rfl) | (simp [*, errW_none, errW_some] <;> rfl), bb⟩
  ·rw [if_neg c4] at H
   exact absurd H (by simp)

-- NOT PRINTED: function 94 (pack_put)

-- NOT PRINTED: function 95 (strings_Builder_String)

end Go.Proofs.Ytjicfkmpgogppaa.PA
-- printed by a program of this session out of the translation; see NOTES.md
namespace Go.Proofs.Ytjicfkmpgogppaa.PA
open Go.RowKit Go.Proofs.YtjicfkmpgogppaaW.PrintWords Go.Proofs.YtjicfkmpgogppaaW.PrintLast Go.Proofs.YtjicfkmpgogppaaW.PrintMore
attribute [local go_sem] max2_int min2_int max_two min_two max_three min_three max_four min_four   -- for this text's walks alone
set_option linter.unusedVariables false
set_option linter.unusedSimpArgs false

/-! ### pack_must: function 99 -/
def pack_must.f (a0 : Int) : Option (Unit) := if a0 = 0 then some () else none
theorem pack_must.calls (a0 : Int) (w : World) (h : pack_must.f a0 = some ()) :
  Calls Try.prog 99 #[.int .i64 a0] w fun e w' => e = .returned (.tuple #[]) ∧ Drawn0 w w' := by
 unfold pack_must.f at h
 by_cases c : a0 = 0
 ·subst c; exact (Go.Proofs.Ytjicfkmpgogppaa.Mt.must_ok w).mono (fun e w' he => ⟨he.1, he.2 ▸ ⟨0, rfl⟩⟩)
 ·rw [if_neg c] at h; cases h

end Go.Proofs.Ytjicfkmpgogppaa.PA
-- printed by a program of this session out of the translation; see NOTES.md
namespace Go.Proofs.Ytjicfkmpgogppaa.PA
open Go.RowKit Go.Proofs.YtjicfkmpgogppaaW.PrintWords Go.Proofs.YtjicfkmpgogppaaW.PrintLast Go.Proofs.YtjicfkmpgogppaaW.PrintMore
attribute [local go_sem] max2_int min2_int max_two min_two max_three min_three max_four min_four   -- for this text's walks alone
set_option linter.unusedVariables false
set_option linter.unusedSimpArgs false

/-! ### words_Get: function 116 -/
mutual
def words_Get.j0 : Nat → ByteArray → Int → Int → Bool → Option (Int × Int × Int)
 | 0, _, _, _, _ => none
 | k + 1, x0, x1, x2, x11 => if x11 = true then (some (0, 0, 2)) else (if (wrap64 ((x0.size : Int) - x1)) < x2 then (some (0, 0, 3)) else (words_Get.l0 k x0 x1 x2 0 x2 0))
def words_Get.l0 : Nat → ByteArray → Int → Int → Int → Int → Int → Option (Int × Int × Int)
 | 0, _, _, _, _, _, _ => none
 | k + 1, x0, x1, x2, x9, x35, x36 => if x36 < x35 then (if 0 ≤ (wrap64 (x1 + x36)) then (if (wrap64 (x1 + x36)) < (x0.size : Int) then (words_Get.l0 k x0 x1 x2 (Go.bits .or .u64 (IntKind.u64.wrap (x9 * 256)) (IntKind.u64.wrap (bt x0 (wrap64 (x1 + x36))))) x35 (wrap64 (x36 + 1))) else (none)) else (none)) else (some (x9, wrap64 (x1 + x2), 0))
end
def words_Get.f (k : Nat) (a0 : ByteArray) (a1 : Int) (a2 : Int) : Option (Int × Int × Int) := if a2 < 1 then (words_Get.j0 k a0 a1 a2 true) else (if a2 > 8 then (words_Get.j0 k a0 a1 a2 true) else (if a1 < 0 then (words_Get.j0 k a0 a1 a2 true) else (words_Get.j0 k a0 a1 a2 (decide (a1 > (a0.size : Int))))))
theorem words_Get.mono_l : ∀ k, (∀ y0 y1 y2 y3, LeO (words_Get.j0 k y0 y1 y2 y3) (words_Get.j0 (k + 1) y0 y1 y2 y3)) ∧ (∀ y0 y1 y2 y3 y4 y5, LeO (words_Get.l0 k y0 y1 y2 y3 y4 y5) (words_Get.l0 (k + 1) y0 y1 y2 y3 y4 y5))
 | 0 => ⟨fun _ _ _ _ r h => by simp [words_Get.j0] at h, fun _ _ _ _ _ _ r h => by simp [words_Get.l0] at h⟩
 | k + 1 => by
  obtain ⟨ih0, ih1⟩ := words_Get.mono_l k
  refine ⟨?_, ?_⟩
  ·intro y0 y1 y2 y3
   unfold words_Get.j0
   repeat' first
   | (with_reducible exact ih0 _ _ _ _)
   | (with_reducible exact ih1 _ _ _ _ _ _)
   | (with_reducible exact LeO.refl _)
   | (with_reducible exact LeO.none _)
   | (with_reducible refine LeO.ite ?_ ?_)
   | (with_reducible refine LeO.bind ?_ (fun _ => ?_))
   | exact ih0 _ _ _ _
   | exact ih1 _ _ _ _ _ _
   | exact LeO.none _
   | refine LeO.ite ?_ ?_
   | refine LeO.bind ?_ (fun _ => ?_)
  ·intro y0 y1 y2 y3 y4 y5
   unfold words_Get.l0
   repeat' first
   | (with_reducible exact ih0 _ _ _ _)
   | (with_reducible exact ih1 _ _ _ _ _ _)
   | (with_reducible exact LeO.refl _)
   | (with_reducible exact LeO.none _)
   | (with_reducible refine LeO.ite ?_ ?_)
   | (with_reducible refine LeO.bind ?_ (fun _ => ?_))
   | exact ih0 _ _ _ _
   | exact ih1 _ _ _ _ _ _
   | exact LeO.none _
   | refine LeO.ite ?_ ?_
   | refine LeO.bind ?_ (fun _ => ?_)
theorem words_Get.mono : ∀ a0 a1 a2 k, LeO (words_Get.f k a0 a1 a2) (words_Get.f (k + 1) a0 a1 a2) := by
 intro a0 a1 a2 k
 obtain ⟨ih0, ih1⟩ := words_Get.mono_l k
 unfold words_Get.f
 repeat' first
   | (with_reducible exact ih0 _ _ _ _)
   | (with_reducible exact ih1 _ _ _ _ _ _)
   | (with_reducible exact LeO.refl _)
   | (with_reducible exact LeO.none _)
   | (with_reducible refine LeO.ite ?_ ?_)
   | (with_reducible refine LeO.bind ?_ (fun _ => ?_))
   | exact ih0 _ _ _ _
   | exact ih1 _ _ _ _ _ _
   | exact LeO.none _
   | refine LeO.ite ?_ ?_
   | refine LeO.bind ?_ (fun _ => ?_)
set_option maxHeartbeats 8000000 in
set_option maxRecDepth 100000 in
theorem words_Get.calls (k : Nat) (a0 : ByteArray) (a1 : Int) (a2 : Int) (r1 : Int) (r2 : Int) (r3 : Int) (w : World) (h : words_Get.f k a0 a1 a2 = some (r1, r2, r3)) :
  Calls Try.prog 116 #[.string a0, .int .i64 a1, .int .i64 a2] w fun e w' => e = .returned (.tuple #[.int .u64 r1, .int .i64 r2, .int .i64 r3]) ∧ Drawn0 w w' := by
 have H : (if a2 < 1 then (words_Get.j0 k a0 a1 a2 true) else (if a2 > 8 then (words_Get.j0 k a0 a1 a2 true) else (if a1 < 0 then (words_Get.j0 k a0 a1 a2 true) else (words_Get.j0 k a0 a1 a2 (decide (a1 > (a0.size : Int))))))) = some (r1, r2, r3) := h
 clear h
 have HC4 := Aside0.mk H
 clear H
 go_enter Try.func116, Try.ntmps116
 go_upto_region 1 with (fail)
 go_cut [11] (fun v11 wc => ∃ (kq : Nat) (x11_3 : Bool), v11 = .bool x11_3 ∧ Aside0 (words_Get.j0 kq a0 a1 a2 x11_3 = some (r1, r2, r3)) ∧ Aside0 (kq ≤ k) ∧ Drawn0 w wc)
 case first =>
  have H := HC4.out
  clear HC4
  by_cases c5 : a2 < 1
  ·rw [if_pos c5] at H
   have c5b0 : decide (a2 < 1) = true := decide_eq_true c5
   clear c5
   (first | rw [c5b0] | (simp only [i64_w, i32_w]; rw [c5b0]) | skip)
   have H' := Aside0.mk H
   clear H
   go_wp2
   go_meet
   case rel => exact ⟨_, (true), (by first | rfl | (simp; done) | (simp [*]; done)), H', ⟨by first | omega | exact Nat.le_refl _⟩, by repeat (first | exact Drawn0.refl _ | apply Drawn0.step)⟩
  ·rw [if_neg c5] at H
   have c5b0 : decide (a2 < 1) = false := decide_eq_false c5
   clear c5
   (first | rw [c5b0] | (simp only [i64_w, i32_w]; rw [c5b0]) | skip)
   by_cases c6 : a2 > 8
   ·rw [if_pos c6] at H
    have c6b0 : decide (8 < a2) = true := decide_eq_true c6
    clear c6
    have H' := Aside0.mk H
    clear H
    go_wp2
    go_meet
    case rel => exact ⟨_, (true), (by first | rfl | (simp; done) | (simp [*]; done)), H', ⟨by first | omega | exact Nat.le_refl _⟩, by repeat (first | exact Drawn0.refl _ | apply Drawn0.step)⟩
   ·rw [if_neg c6] at H
    have c6b0 : decide (8 < a2) = false := decide_eq_false c6
    clear c6
    by_cases c7 : a1 < 0
    ·rw [if_pos c7] at H
     have c7b0 : decide (a1 < 0) = true := decide_eq_true c7
     clear c7
     have H' := Aside0.mk H
     clear H
     go_wp2
     go_meet
     case rel => exact ⟨_, (true), (by first | rfl | (simp; done) | (simp [*]; done)), H', ⟨by first | omega | exact Nat.le_refl _⟩, by repeat (first | exact Drawn0.refl _ | apply Drawn0.step)⟩
    ·rw [if_neg c7] at H
     have c7b0 : decide (a1 < 0) = false := decide_eq_false c7
     clear c7
     have H' := Aside0.mk H
     clear H
     go_wp2
     go_meet
     case rel => exact ⟨_, (decide (a1 > (a0.size : Int))), (by first | rfl | (simp; done) | (simp [*]; done)), H', ⟨by first | omega | exact Nat.le_refl _⟩, by repeat (first | exact Drawn0.refl _ | apply Drawn0.step)⟩
 case rest =>
  clear HC4
  try clear c1
  try clear p2
  try clear c5
  try clear c5b0
  try clear c6
  try clear c6b0
  try clear c7
  try clear c7b0
  obtain ⟨kq, x11_3, rfl, HA, HJ3, ⟨mc3, rfl⟩⟩ := hcut
  cases kq with
  | zero => exact absurd HA.out (by simp [words_Get.j0])
  | succ kj3 =>
   have H := HA.out
   clear HA
   simp only [words_Get.j0] at H
   by_cases c8 : x11_3 = true
   ·subst c8
    have H1 : (some (0, 0, 2)) = some (r1, r2, r3) := by rw [if_pos rfl] at H; exact H
    clear H
    have H := H1
    clear H1
    simp only [Option.some.injEq, Prod.mk.injEq] at H
    obtain ⟨rfl, rfl, rfl⟩ := H
    go_wp2
    go_ret3
    exact ⟨by first | rfl | (simp; done) | (simp [*]; done), by repeat (first | exact Drawn0.refl _ | apply Drawn0.step)⟩
   ·replace c8 := Bool.eq_false_iff.mpr c8
    subst c8
    have H1 : (if (wrap64 ((a0.size : Int) - a1)) < a2 then (some (0, 0, 3)) else (words_Get.l0 kj3 a0 a1 a2 0 a2 0)) = some (r1, r2, r3) := by rw [if_neg (show ¬ (false = true) by decide)] at H; exact H
    clear H
    have H := H1
    clear H1
    by_cases c9 : (wrap64 ((a0.size : Int) - a1)) < a2
    ·rw [if_pos c9] at H
     have c9b0 : decide ((wrap64 ((a0.size : Int) - a1)) < a2) = true := decide_eq_true c9
     clear c9
     simp only [Option.some.injEq, Prod.mk.injEq] at H
     obtain ⟨rfl, rfl, rfl⟩ := H
     go_wp2
     go_ret3
     exact ⟨by first | rfl | (simp; done) | (simp [*]; done), by repeat (first | exact Drawn0.refl _ | apply Drawn0.step)⟩
    ·rw [if_neg c9] at H
     have c9b0 : decide ((wrap64 ((a0.size : Int) - a1)) < a2) = false := decide_eq_false c9
     clear c9
     have H' := Aside0.mk H
     clear H
     go_wp2
     go_loopg [9, 36] kj3 (fun kq v9 v36 w' => ∃ (x9_2 : Int) (x36_2 : Int), v9 = .int .u64 x9_2 ∧ v36 = .int .i64 x36_2 ∧ Aside0 (words_Get.l0 kq a0 a1 a2 x9_2 a2 x36_2 = some (r1, r2, r3)) ∧ Aside0 (kq ≤ kj3) ∧ Drawn0 w w')
     case atStart => exact ⟨(0), (0), (by first | rfl | (simp; done) | (simp [*]; done)), (by first | rfl | (simp; done) | (simp [*]; done)), H', ⟨Nat.le_refl _⟩, by repeat (first | exact Drawn0.refl _ | apply Drawn0.step)⟩
     case round =>
      clear H'
      try clear c1
      try clear p2
      try clear c3
      try clear c5
      try clear c5b0
      try clear c6
      try clear c6b0
      try clear p6
      try clear c7
      try clear c7b0
      try clear c8
      try clear c9
      try clear c9b0
      try clear p2
      obtain ⟨x9_2, x36_2, rfl, rfl, HA, HK2, ⟨m2, rfl⟩⟩ := hrel
      cases gk with
      | zero => exact absurd HA.out (by simp [words_Get.l0])
      | succ k2 =>
       have H := HA.out
       clear HA
       simp only [words_Get.l0] at H
       by_cases c10 : x36_2 < a2
       ·rw [if_pos c10] at H
        have c10b0 : decide (x36_2 < a2) = true := decide_eq_true c10
        clear c10
        obtain ⟨ji11, hji11⟩ : ∃ j_ : Int, (wrap64 (a1 + x36_2)) = j_ := ⟨_, rfl⟩
        replace H : (if 0 ≤ (ji11) then (if (ji11) < (a0.size : Int) then (words_Get.l0 k2 a0 a1 a2 (Go.bits .or .u64 (IntKind.u64.wrap (x9_2 * 256)) (IntKind.u64.wrap (bt a0 (ji11)))) a2 (wrap64 (x36_2 + 1))) else (none)) else (none)) = some (r1, r2, r3) := by first | (rw [hji11] at H; exact H) | (simp only [hji11] at H ⊢; exact H)
        have hji11w : (IntKind.i64.wrap (a1 + x36_2)) = ji11 := (i64_w _).trans hji11
        by_cases c12 : 0 ≤ (ji11)
        ·rw [if_pos c12] at H
         have c12b0 : decide (0 ≤ (ji11)) = true := decide_eq_true c12
         clear c12
         by_cases c13 : (ji11) < (a0.size : Int)
         ·rw [if_pos c13] at H
          have c13b0 : decide ((ji11) < (a0.size : Int)) = true := decide_eq_true c13
          clear c13
          have H' := Aside0.mk H
          clear H
          have p14 : 0 ≤ ((ji11) : Int) := of_decide_eq_true (by first | (with_reducible assumption) | assumption)
          have q14 : (ji11) < (a0.size : Int) := of_decide_eq_true (by first | (with_reducible assumption) | assumption)
          have hx14 := bt_at a0 (ji11)
          replace p14 := eq_true p14
          replace q14 := eq_true q14
          go_wp2
          go_roundg k2
          case measure => have := HJ3.out; have := HK2.out; omega
          case rel => exact ⟨(Go.bits .or .u64 (IntKind.u64.wrap (x9_2 * 256)) (IntKind.u64.wrap (bt a0 (ji11)))), (wrap64 (x36_2 + 1)), (by first | rfl | (simp; done) | (simp only [← hji11] <;> (first | rfl | simp)) | (simp [*]; done)), (by first | rfl | (simp; done) | (simp [*]; done)), H', ⟨by have := HJ3.out; have := HK2.out; omega⟩, by repeat (first | exact Drawn0.refl _ | apply Drawn0.step)⟩
         ·rw [if_neg c13] at H
          exact absurd H (by simp)
        ·rw [if_neg c12] at H
         exact absurd H (by simp)
       ·rw [if_neg c10] at H
        have c10b0 : decide (x36_2 < a2) = false := decide_eq_false c10
        clear c10
        simp only [Option.some.injEq, Prod.mk.injEq] at H
        obtain ⟨rfl, rfl, rfl⟩ := H
        go_wp2
        go_ret3
        exact ⟨by first | rfl | (simp; done) | (simp [*]; done), by repeat (first | exact Drawn0.refl _ | apply Drawn0.step)⟩

/-- A state of type 183 at block g of W; what its slices lead to came in by w0. -/
def IsS183 (w0 W : World) (g : Nat) (f0 : ByteArray) (f1 : Int) : Prop := W.heap[g]? = some (.cells #[.string f0, .int .i64 f1] 183 (0, 0)) ∧ w0.heap.size ≤ g
theorem IsS183.grown {w0 W : World} {g : Nat} {f0 : ByteArray} {f1 : Int} {W1 : World} {row : Option Nat} (h : IsS183 w0 W g f0 f1) (hw : W.grownBy W1 row) (hne : some g ≠ row) : IsS183 w0 W1 g f0 f1 := by
 obtain ⟨hb, hg⟩ := h
 exact ⟨blk_grown hb hw hne, hg⟩
theorem IsS183.kept {w0 W : World} {g : Nat} {f0 : ByteArray} {f1 : Int} {W1 : World} {S : Nat → Prop} (h : IsS183 w0 W g f0 f1) (hk : Kept W W1 S) (hne : ¬ S g) : IsS183 w0 W1 g f0 f1 := by
 obtain ⟨hb, hg⟩ := h
 exact ⟨blk_kept hb hk hne, hg⟩
theorem IsS183.below {w0 W : World} {g : Nat} {f0 : ByteArray} {f1 : Int} {W1 : World} (h : IsS183 w0 W g f0 f1) (hw : Below W.heap.size W W1) : IsS183 w0 W1 g f0 f1 := h.grown (grown_of_below hw none) (by simp)
theorem IsS183.alloc {w0 W : World} {g : Nat} {f0 : ByteArray} {f1 : Int} (h : IsS183 w0 W g f0 f1) (o : Obj) : IsS183 w0 (W.alloc o) g f0 f1 := h.below (below_alloc (Below.refl _ _) o)
theorem IsS183.drewN {w0 W : World} {g : Nat} {f0 : ByteArray} {f1 : Int} (h : IsS183 w0 W g f0 f1) (m : Nat) : IsS183 w0 (W.drewN m) g f0 f1 := h
theorem IsS183.drew {w0 W : World} {g : Nat} {f0 : ByteArray} {f1 : Int} (h : IsS183 w0 W g f0 f1) : IsS183 w0 W.drew g f0 f1 := h
theorem IsS183.at_ {w0 W : World} {g : Nat} {f0 : ByteArray} {f1 : Int} {w' : World} {m : Nat} (hq : W.drewN m = w') (h : IsS183 w0 W g f0 f1) : IsS183 w0 w' g f0 f1 := by subst hq; exact IsS183.drewN h m
theorem IsS183.apart {w0 W : World} {g : Nat} {f0 : ByteArray} {f1 : Int} {α : Type} {d : Kd α} {e : Nat} {base : Nat} {ok : Nat → Prop} {v : Value} {xs : List α} (h : IsS183 w0 W g f0 f1) (ho : d.R e W base ok v xs) (ht : ∀ q, q ∈ e :: d.E → q ≠ 183) : d.R e W base (fun k => ok k ∧ k ≠ g) v xs := by
 obtain ⟨hb, hg⟩ := h
 exact Kd.R_types ho hb ht
theorem IsS183.own_ne {w0 W : World} {g : Nat} {f0 : ByteArray} {f1 : Int} {α : Type} {d : Kd α} {e : Nat} {base : Nat} {ok : Nat → Prop} {v : Value} {xs : List α} (h : IsS183 w0 W g f0 f1) (ho : d.R e W base ok v xs) (ht : e ≠ 183) : some g ≠ v.ownBlock := by
 obtain ⟨hb, hg⟩ := h
 exact Kd.R_ne ho hb ht
theorem IsS183.lt {w0 W : World} {g : Nat} {f0 : ByteArray} {f1 : Int} (h : IsS183 w0 W g f0 f1) : g < W.heap.size := by
 obtain ⟨hb, hg⟩ := h
 exact blk_lt hb
theorem IsS183.ge {w0 W : World} {g : Nat} {f0 : ByteArray} {f1 : Int} (h : IsS183 w0 W g f0 f1) : w0.heap.size ≤ g := by
 obtain ⟨hb, hg⟩ := h
 exact hg
theorem IsS183.far {w0 W : World} {g : Nat} {f0 : ByteArray} {f1 : Int} {p : Addr} (h : IsS183 w0 W g f0 f1) (hne : g ≠ p.block) (u : Value) : IsS183 w0 (W.setCell p u) g f0 f1 := by
 obtain ⟨hb, hg⟩ := h
 exact ⟨blk_far hb hne u, hg⟩
theorem cellS183_0 {W : World} {g : Nat} {f0 : ByteArray} {f1 : Int} (h : W.heap[g]? = some (.cells #[.string f0, .int .i64 f1] 183 (0, 0))) : W.cell? ⟨g, 0, none⟩ = some (.string f0) := (blk_cell h 0).trans rfl
theorem IsS183.set_0 {w0 W : World} {g : Nat} {f0 : ByteArray} {f1 : Int} (h : IsS183 w0 W g f0 f1) (x : ByteArray) : IsS183 w0 (W.setCell ⟨g, 0, none⟩ (.string x)) g x f1 := by
 obtain ⟨hb, hg⟩ := h
 exact ⟨by simpa using blk_set hb 0 (.string x), hg⟩
theorem cellS183_1 {W : World} {g : Nat} {f0 : ByteArray} {f1 : Int} (h : W.heap[g]? = some (.cells #[.string f0, .int .i64 f1] 183 (0, 0))) : W.cell? ⟨g, 1, none⟩ = some (.int .i64 f1) := (blk_cell h 1).trans rfl
theorem IsS183.set_1 {w0 W : World} {g : Nat} {f0 : ByteArray} {f1 : Int} (h : IsS183 w0 W g f0 f1) (x : Int) : IsS183 w0 (W.setCell ⟨g, 1, none⟩ (.int .i64 x)) g f0 x := by
 obtain ⟨hb, hg⟩ := h
 exact ⟨by simpa using blk_set hb 1 (.int .i64 x), hg⟩
/-! ### pack_reader_number: function 108 -/
def pack_reader_number.f (k : Nat) (s0_0 : ByteArray) (s0_1 : Int) (a1 : Int) : Option (Int × ByteArray × Int) := (words_Get.f k s0_0 s0_1 a1).bind fun bt165 => ((pack_must.f bt165.2.2).bind fun _ => (some (bt165.1, s0_0, bt165.2.1)))
theorem pack_reader_number.mono : ∀ a0 a1 a2 k, LeO (pack_reader_number.f k a0 a1 a2) (pack_reader_number.f (k + 1) a0 a1 a2) := by
 intro a0 a1 a2 k
 unfold pack_reader_number.f
 repeat' first
   | (with_reducible exact words_Get.mono _ _ _ _)
   | (with_reducible exact LeO.refl _)
   | (with_reducible exact LeO.none _)
   | (with_reducible refine LeO.ite ?_ ?_)
   | (with_reducible refine LeO.bind ?_ (fun _ => ?_))
   | exact words_Get.mono _ _ _ _
   | exact LeO.none _
   | refine LeO.ite ?_ ?_
   | refine LeO.bind ?_ (fun _ => ?_)
set_option maxHeartbeats 8000000 in
set_option maxRecDepth 100000 in
theorem pack_reader_number.calls (k : Nat) (g : Nat) (s0_0 : ByteArray) (s0_1 : Int) (a1 : Int) (r1 : Int) (r2 : ByteArray) (r3 : Int) (w0 w : World) (hI : IsS183 w0 w g s0_0 s0_1) (hB : Below w0.heap.size w0 w) (h : pack_reader_number.f k s0_0 s0_1 a1 = some (r1, r2, r3)) :
  Calls Try.prog 108 #[.pointer (some ⟨g, 0, none⟩), .int .i64 a1] w fun e w' => e = .returned (.int .u64 r1) ∧ IsS183 w0 w' g r2 r3 ∧ Below w0.heap.size w0 w' ∧ KeepBut w w' g none := by
 have HI0 := Aside0.mk hI
 have HK := Aside0.mk (KeepBut.refl w g none)
 have HL := Aside0.mk hB.size
 clear hI
 have HW0 := Aside0.mk hB.size
 have HB := Aside0.mk hB
 clear hB
 have H : ((words_Get.f k s0_0 s0_1 a1).bind fun bt165 => ((pack_must.f bt165.2.2).bind fun _ => (some (bt165.1, s0_0, bt165.2.1)))) = some (r1, r2, r3) := h
 clear h
 replace H := Option.bind_eq_some_iff.mp H
 obtain ⟨⟨t165, t166, t167⟩, A30, H⟩ := H
 replace H : ((pack_must.f t167).bind fun _ => (some (t165, s0_0, t166))) = some (r1, r2, r3) := H
 have A3 := Aside0.mk A30
 clear A30
 replace H := Option.bind_eq_some_iff.mp H
 obtain ⟨_, A40, H⟩ := H
 replace H : (some (t165, s0_0, t166)) = some (r1, r2, r3) := H
 have A4 := Aside0.mk A40
 clear A40
 simp only [Option.some.injEq, Prod.mk.injEq] at H
 obtain ⟨rfl, rfl, rfl⟩ := H
 obtain ⟨HGz5, hgz5⟩ := HI0.out
 have hcz5_0 := cellS183_0 HGz5
 have hcz5_1 := cellS183_1 HGz5
 have hfz5_0 := blk_frozen HGz5 0
 have hfz5_1 := blk_frozen HGz5 1
 clear HGz5 hgz5
 go_enter Try.func108, Try.ntmps108
 go_wp2_with (first | (go_at_call 116; (with_reducible refine (words_Get.calls k s0_0 s0_1 a1 t165 t166 t167 _ A3.out).mono ?_); rintro e w' ⟨rfl, ⟨nd, rfl⟩⟩; (try first | exact ⟨rfl, _, World.drewN_drewN _ _ _⟩ | exact ⟨rfl, _, Eq.trans (World.drewN_drewN _ _ _) (congrArg (World.drewN _) (Nat.add_assoc _ _ _))⟩)) | (go_at_call 99; (with_reducible refine (pack_must.calls t167  _ A4.out).mono ?_); rintro e w' ⟨rfl, ⟨nd, rfl⟩⟩; (try first | exact ⟨rfl, _, World.drewN_drewN _ _ _⟩ | exact ⟨rfl, _, Eq.trans (World.drewN_drewN _ _ _) (congrArg (World.drewN _) (Nat.add_assoc _ _ _))⟩)))
 repeat (go_quiet (first | (go_at_call 116; (with_reducible refine (words_Get.calls k s0_0 s0_1 a1 t165 t166 t167 _ A3.out).mono ?_); rintro e w' ⟨rfl, ⟨nd, rfl⟩⟩; (try first | exact ⟨rfl, _, World.drewN_drewN _ _ _⟩ | exact ⟨rfl, _, Eq.trans (World.drewN_drewN _ _ _) (congrArg (World.drewN _) (Nat.add_assoc _ _ _))⟩)) | (go_at_call 99; (with_reducible refine (pack_must.calls t167  _ A4.out).mono ?_); rintro e w' ⟨rfl, ⟨nd, rfl⟩⟩; (try first | exact ⟨rfl, _, World.drewN_drewN _ _ _⟩ | exact ⟨rfl, _, Eq.trans (World.drewN_drewN _ _ _) (congrArg (World.drewN _) (Nat.add_assoc _ _ _))⟩))); try go_wp2_with (first | (go_at_call 116; (with_reducible refine (words_Get.calls k s0_0 s0_1 a1 t165 t166 t167 _ A3.out).mono ?_); rintro e w' ⟨rfl, ⟨nd, rfl⟩⟩; (try first | exact ⟨rfl, _, World.drewN_drewN _ _ _⟩ | exact ⟨rfl, _, Eq.trans (World.drewN_drewN _ _ _) (congrArg (World.drewN _) (Nat.add_assoc _ _ _))⟩)) | (go_at_call 99; (with_reducible refine (pack_must.calls t167  _ A4.out).mono ?_); rintro e w' ⟨rfl, ⟨nd, rfl⟩⟩; (try first | exact ⟨rfl, _, World.drewN_drewN _ _ _⟩ | exact ⟨rfl, _, Eq.trans (World.drewN_drewN _ _ _) (congrArg (World.drewN _) (Nat.add_assoc _ _ _))⟩))))
 go_ret
 exact ⟨by first | rfl | (simp [errW_none, errW_some] <;> rfl) | (simp [*, errW_none, errW_some] <;> rfl), by repeat (first | (with_reducible first | exact HI0.out | apply IsS183.alloc | apply IsS183.drewN | apply IsS183.drew | apply IsS183.set_0 | apply IsS183.set_1) | exact HI0.out), by repeat (first | (with_reducible first | exact HB.out | apply below_alloc | apply pw_below_drewN | apply below_drew1 | refine below_set ?_ (IsS183.ge HI0.out)) | exact HB.out), by repeat (first | (with_reducible first | exact HK.out | apply KeepBut.set_ | apply keep_drewN | apply keep_drew | apply keep_alloc) | exact HK.out)⟩

/-! ### words_Unfold: function 117 -/
def words_Unfold.f (a0 : Int) : Option (Int) := some (Go.bits .xor .i64 (wrap64 (a0 / 2)) (wrap64 (-(wrap64 (Go.bits .and .u64 a0 1)))))
set_option maxHeartbeats 8000000 in
set_option maxRecDepth 100000 in
theorem words_Unfold.calls (a0 : Int) (r : Int) (w : World) (h : words_Unfold.f a0 = some r) :
  Calls Try.prog 117 #[.int .u64 a0] w fun e w' => e = .returned (.int .i64 r) ∧ Drawn0 w w' := by
 have H : (some (Go.bits .xor .i64 (wrap64 (a0 / 2)) (wrap64 (-(wrap64 (Go.bits .and .u64 a0 1)))))) = some r := h
 clear h
 obtain rfl := Option.some.inj H
 go_enter Try.func117, Try.ntmps117
 go_wp2
 go_ret
 exact ⟨by first | rfl | (simp; done) | (simp [*]; done), by repeat (first | exact Drawn0.refl _ | apply Drawn0.step)⟩

end Go.Proofs.Ytjicfkmpgogppaa.PA
-- printed by a program of this session out of the translation; see NOTES.md
namespace Go.Proofs.Ytjicfkmpgogppaa.PA
open Go.RowKit Go.Proofs.YtjicfkmpgogppaaW.PrintWords Go.Proofs.YtjicfkmpgogppaaW.PrintLast Go.Proofs.YtjicfkmpgogppaaW.PrintMore Go.Proofs.YtjicfkmpgogppaaRb
attribute [local go_sem] max2_int min2_int max_two min_two max_three min_three max_four min_four   -- for this text's walks alone
set_option linter.unusedVariables false
set_option linter.unusedSimpArgs false

/-! ### pack_reader_int: function 109 -/
def pack_reader_int.f (k : Nat) (s0_0 : ByteArray) (s0_1 : Int) : Option (Int × Int × ByteArray × (List (S54)) × ByteArray × Int) := (pack_reader_number.f k s0_0 s0_1 1).bind fun bt169 => (if (wrap64 (bt169.1)) > 8 then (none) else (if (wrap64 (bt169.1)) = 0 then ((pack_Num.f 0).bind fun bt172 => (some (bt172.1, bt172.2.1, bt172.2.2.1, bt172.2.2.2, bt169.2.1, bt169.2.2))) else ((pack_reader_number.f k bt169.2.1 bt169.2.2 (wrap64 (bt169.1))).bind fun bt178 => (if 0 ≤ (wrap64 (8 * (wrap64 ((wrap64 (bt169.1)) - 1)))) then (if (shr .u64 bt178.1 (wrap64 (8 * (wrap64 ((wrap64 (bt169.1)) - 1))))) = 0 then (none) else ((words_Unfold.f bt178.1).bind fun t181 => ((pack_Num.f t181).bind fun bt182 => (some (bt182.1, bt182.2.1, bt182.2.2.1, bt182.2.2.2, bt178.2.1, bt178.2.2))))) else (none)))))
theorem pack_reader_int.mono : ∀ a0 a1 k, LeO (pack_reader_int.f k a0 a1) (pack_reader_int.f (k + 1) a0 a1) := by
 intro a0 a1 k
 unfold pack_reader_int.f
 repeat' first
   | (with_reducible exact pack_reader_number.mono _ _ _ _)
   | (with_reducible exact LeO.refl _)
   | (with_reducible exact LeO.none _)
   | (with_reducible refine LeO.ite ?_ ?_)
   | (with_reducible refine LeO.bind ?_ (fun _ => ?_))
   | exact pack_reader_number.mono _ _ _ _
   | exact LeO.none _
   | refine LeO.ite ?_ ?_
   | refine LeO.bind ?_ (fun _ => ?_)
set_option maxHeartbeats 8000000 in
set_option maxRecDepth 100000 in
theorem pack_reader_int.calls (k : Nat) (g : Nat) (s0_0 : ByteArray) (s0_1 : Int) (r1 : Int) (r2 : Int) (r3 : ByteArray) (r4 : List (S54)) (r5 : ByteArray) (r6 : Int) (w0 w : World) (hI : IsS183 w0 w g s0_0 s0_1) (hB : Below w0.heap.size w0 w) (h : pack_reader_int.f k s0_0 s0_1 = some (r1, r2, r3, r4, r5, r6)) :
  Calls Try.prog 109 #[.pointer (some ⟨g, 0, none⟩)] w fun e w' => ∃ v3_ : Value, e = .returned (.agg #[.int .i64 r1, .int .i64 r2, .string r3, v3_]) ∧ Kd.R k54 54 w' w.heap.size (fun _ => True) v3_ r4 ∧ IsS183 w0 w' g r5 r6 ∧ Below w0.heap.size w0 w' ∧ KeepBut w w' g none := by
 have hu54 := Try.underlying54
 have HI0 := Aside0.mk hI
 have HK := Aside0.mk (KeepBut.refl w g none)
 have HL := Aside0.mk hB.size
 clear hI
 have HW0 := Aside0.mk hB.size
 have HB := Aside0.mk hB
 clear hB
 have H : ((pack_reader_number.f k s0_0 s0_1 1).bind fun bt169 => (if (wrap64 (bt169.1)) > 8 then (none) else (if (wrap64 (bt169.1)) = 0 then ((pack_Num.f 0).bind fun bt172 => (some (bt172.1, bt172.2.1, bt172.2.2.1, bt172.2.2.2, bt169.2.1, bt169.2.2))) else ((pack_reader_number.f k bt169.2.1 bt169.2.2 (wrap64 (bt169.1))).bind fun bt178 => (if 0 ≤ (wrap64 (8 * (wrap64 ((wrap64 (bt169.1)) - 1)))) then (if (shr .u64 bt178.1 (wrap64 (8 * (wrap64 ((wrap64 (bt169.1)) - 1))))) = 0 then (none) else ((words_Unfold.f bt178.1).bind fun t181 => ((pack_Num.f t181).bind fun bt182 => (some (bt182.1, bt182.2.1, bt182.2.2.1, bt182.2.2.2, bt178.2.1, bt178.2.2))))) else (none)))))) = some (r1, r2, r3, r4, r5, r6) := h
 clear h
 replace H := Option.bind_eq_some_iff.mp H
 obtain ⟨⟨t169, t170, t171⟩, A20, H⟩ := H
 replace H : (if (wrap64 (t169)) > 8 then (none) else (if (wrap64 (t169)) = 0 then ((pack_Num.f 0).bind fun bt172 => (some (bt172.1, bt172.2.1, bt172.2.2.1, bt172.2.2.2, t170, t171))) else ((pack_reader_number.f k t170 t171 (wrap64 (t169))).bind fun bt178 => (if 0 ≤ (wrap64 (8 * (wrap64 ((wrap64 (t169)) - 1)))) then (if (shr .u64 bt178.1 (wrap64 (8 * (wrap64 ((wrap64 (t169)) - 1))))) = 0 then (none) else ((words_Unfold.f bt178.1).bind fun t181 => ((pack_Num.f t181).bind fun bt182 => (some (bt182.1, bt182.2.1, bt182.2.2.1, bt182.2.2.2, bt178.2.1, bt178.2.2))))) else (none))))) = some (r1, r2, r3, r4, r5, r6) := H
 have A2 := Aside0.mk A20
 clear A20
 by_cases c3 : (wrap64 (t169)) > 8
 ·rw [if_pos c3] at H
  exact absurd H (by simp)
 ·rw [if_neg c3] at H
  have c3b0 : decide (8 < (wrap64 (t169))) = false := decide_eq_false c3
  clear c3
  by_cases c4 : (wrap64 (t169)) = 0
  ·rw [if_pos c4] at H
   have c4b0 : ((wrap64 (t169)) == 0) = true := beq_iff_eq.mpr c4
   have c4b1 : ((wrap64 (t169)) != 0) = false := bne_eq_false_iff_eq.mpr c4
   clear c4
   replace H := Option.bind_eq_some_iff.mp H
   obtain ⟨⟨t172, t173, t174, t175⟩, A50, H⟩ := H
   replace H : (some (t172, t173, t174, t175, t170, t171)) = some (r1, r2, r3, r4, r5, r6) := H
   have A5 := Aside0.mk A50
   clear A50
   simp only [Option.some.injEq, Prod.mk.injEq] at H
   obtain ⟨rfl, rfl, rfl, rfl, rfl, rfl⟩ := H
   go_enter Try.func109, Try.ntmps109
   go_wp2_with (first | ((with_reducible refine gate_dst (N := 2) rfl ?_); refine box_event ?hg (N := 2) ?hd (cs := #[.int .i64 0, .int .i64 0, .string (⟨#[]⟩ : ByteArray), .slice none 0 0]) (t := 54) ?hr ?_; (case hd => rfl); (case hg => rfl); (case hr => first | (go_simp; done) | (go_simp; rfl)); intro gb168 hg w6 hbox hb; have n0_ := Aside0.mk (IsS183.below (by repeat (first | (with_reducible first | exact HI0.out | apply IsS183.alloc | apply IsS183.drewN | apply IsS183.drew | apply IsS183.set_0 | apply IsS183.set_1) | exact HI0.out)) hb); have n1_ := Aside0.mk (KeepBut.trans (by repeat (first | (with_reducible first | exact HK.out | apply KeepBut.set_ | apply keep_drewN | apply keep_drew | apply keep_alloc) | exact HK.out)) (KeepBut.of_below hb g none) (.inl rfl)); have n2_ := Aside0.mk (below_step (by repeat (first | (with_reducible first | exact HB.out | apply below_alloc | apply pw_below_drewN | apply below_drew1 | refine below_set ?_ (IsS183.ge HI0.out)) | exact HB.out)) hb); have n3_ := Aside0.mk (hbox); have n4_ := Aside0.mk ((by rw [hg]; exact (keep_size (w := w) (g := g) (row := none) (by repeat (first | (with_reducible first | exact HK.out | apply KeepBut.set_ | apply keep_drewN | apply keep_drew | apply keep_alloc) | exact HK.out))) : w.heap.size ≤ gb168)); have n5_ := Aside0.mk ((Nat.le_trans HW0.out (by rw [hg]; exact (keep_size (w := w) (g := g) (row := none) (by repeat (first | (with_reducible first | exact HK.out | apply KeepBut.set_ | apply keep_drewN | apply keep_drew | apply keep_alloc) | exact HK.out))) : w.heap.size ≤ gb168) : w0.heap.size ≤ gb168)); have n6_ := Aside0.mk ((by rw [hg]; exact Nat.ne_of_lt (IsS183.lt (show IsS183 w0 _ g s0_0 s0_1 from by repeat (first | (with_reducible first | exact HI0.out | apply IsS183.alloc | apply IsS183.drewN | apply IsS183.drew | apply IsS183.set_0 | apply IsS183.set_1) | exact HI0.out))) : g ≠ gb168)); have n7_ := Aside0.mk ((by rw [hg]; exact Nat.ne_of_gt (IsS183.lt (show IsS183 w0 _ g s0_0 s0_1 from by repeat (first | (with_reducible first | exact HI0.out | apply IsS183.alloc | apply IsS183.drewN | apply IsS183.drew | apply IsS183.set_0 | apply IsS183.set_1) | exact HI0.out))) : gb168 ≠ g)); clear HI0; clear HK; clear HB; have HI0 := n0_; have HK := n1_; have HB := n2_; have BK168 := n3_; have GW168 := n4_; have GE168 := n5_; have NB0_168 := n6_; have NB168_0 := n7_; clear n0_ n1_ n2_ n3_ n4_ n5_ n6_ n7_; clear hb hbox hg) | ((with_reducible refine gate_callee (f := 108) rfl ?_); refine goesL_ (some 6) rfl rfl Try.func108 (by kernel_rfl) rfl #[.pointer (some ⟨g, 0, none⟩), .int .i64 1] rfl ag ?_; (with_reducible refine (pack_reader_number.calls k g s0_0 s0_1 1 t169 t170 t171 w0 _ ?side1 ?side2 A2.out).mono ?_); (case side1 => repeat (first | (with_reducible first | exact HI0.out | apply IsS183.alloc | apply IsS183.drewN | apply IsS183.drew | apply IsS183.set_0 | apply IsS183.set_1 | refine IsS183.far ?_ NB0_168.out _) | exact HI0.out)); (case side2 => repeat (first | (with_reducible first | exact HB.out | apply below_alloc | apply pw_below_drewN | apply below_drew1 | refine below_set ?_ (IsS183.ge HI0.out) | refine below_set ?_ GE168.out) | exact HB.out)); rintro e w7 ⟨rfl, hi, hb, hk⟩; refine ⟨_, rfl, ?_⟩; have n0_ := Aside0.mk (KeepBut.blk hk (g' := gb168) (o := .cells #[.int .i64 0, .int .i64 0, .string (⟨#[]⟩ : ByteArray), .slice none 0 0] 54 (0, 0)) (rb BK168.out) NB168_0.out (by simp)); have n1_ := Aside0.mk (KeepBut.trans (by repeat (first | (with_reducible first | exact HK.out | apply KeepBut.set_ | apply keep_drewN | apply keep_drew | apply keep_alloc | refine keep_far ?_ GW168.out _) | exact HK.out)) hk (.inl rfl)); have n2_ := Aside0.mk (hb); have n3_ := Aside0.mk (hi); clear BK168; clear HK; clear HB; clear HI0; have BK168 := n0_; have HK := n1_; have HB := n2_; have HI0 := n3_; clear n0_ n1_ n2_ n3_; (try clear hb); (try clear hb2); (try clear hk); (try clear hi)) | ((with_reducible refine gate_callee (f := 48) rfl ?_); refine goesL_ (some 15) rfl rfl Try.func48 (by kernel_rfl) rfl #[.int .i64 0] rfl ag ?_; (with_reducible refine (pack_Num.calls 0 t172 t173 t174 t175 _ A5.out).mono ?_); rintro e w8 ⟨v176, rfl, ho0, hb⟩; refine ⟨_, rfl, ?_⟩; have n0_ := Aside0.mk (Kd.R_lower (Kd.R_newB ho0 (g := gb168) (o := .cells #[.int .i64 0, .int .i64 0, .string (⟨#[]⟩ : ByteArray), .slice none 0 0] 54 (0, 0)) (rb BK168.out)) (keep_size (w := w) (g := g) (row := none) (by repeat (first | (with_reducible first | exact HK.out | apply KeepBut.set_ | apply keep_drewN | apply keep_drew | apply keep_alloc | refine keep_far ?_ GW168.out _) | exact HK.out)))); have n1_ := Aside0.mk (IsS183.below (by repeat (first | (with_reducible first | exact HI0.out | apply IsS183.alloc | apply IsS183.drewN | apply IsS183.drew | apply IsS183.set_0 | apply IsS183.set_1 | refine IsS183.far ?_ NB0_168.out _) | exact HI0.out)) hb); have n2_ := Aside0.mk (blk_below (g := gb168) (o := .cells #[.int .i64 0, .int .i64 0, .string (⟨#[]⟩ : ByteArray), .slice none 0 0] 54 (0, 0)) (rb BK168.out) hb); have n3_ := Aside0.mk (KeepBut.trans (by repeat (first | (with_reducible first | exact HK.out | apply KeepBut.set_ | apply keep_drewN | apply keep_drew | apply keep_alloc | refine keep_far ?_ GW168.out _) | exact HK.out)) (KeepBut.of_below hb g none) (.inl rfl)); have n4_ := Aside0.mk (below_step (by repeat (first | (with_reducible first | exact HB.out | apply below_alloc | apply pw_below_drewN | apply below_drew1 | refine below_set ?_ (IsS183.ge HI0.out) | refine below_set ?_ GE168.out) | exact HB.out)) hb); clear HI0; clear BK168; clear HK; clear HB; have HO177 := n0_; have HI0 := n1_; have BK168 := n2_; have HK := n3_; have HB := n4_; clear n0_ n1_ n2_ n3_ n4_; (try clear hb); (try clear hb2); (try clear hk); (try clear hi); (try clear ho0); have hnb9 := NB168_0.out; have hnc9 := NB0_168.out; have hcz10_0 : w8.cell? ⟨gb168, 0, none⟩ = some (.int .i64 0) := (blk_cell BK168.out 0).trans rfl; have hcz10_1 : w8.cell? ⟨gb168, 1, none⟩ = some (.int .i64 0) := (blk_cell BK168.out 1).trans rfl; have hcz10_2 : w8.cell? ⟨gb168, 2, none⟩ = some (.string (⟨#[]⟩ : ByteArray)) := (blk_cell BK168.out 2).trans rfl; have hcz10_3 : w8.cell? ⟨gb168, 3, none⟩ = some (.slice none 0 0) := (blk_cell BK168.out 3).trans rfl; have hfz10_0 := blk_frozen BK168.out 0; have hfz10_1 := blk_frozen BK168.out 1; have hfz10_2 := blk_frozen BK168.out 2; have hfz10_3 := blk_frozen BK168.out 3; obtain ⟨Ao11, co11, eo11⟩ := Kd.R_slice HO177.out; subst eo11))
   refine bodyPost_ret (results_cell_row rfl _ _ gb168 54 #[.int .i64 t172, .int .i64 t173, .string t174, .slice Ao11 t175.length co11] (0, 0) _ rfl (rb (blk_put (cs := #[.int .i64 t172, .int .i64 t173, .string t174, .slice none 0 0]) (rb (blk_put (cs := #[.int .i64 t172, .int .i64 t173, .string (⟨#[]⟩ : ByteArray), .slice none 0 0]) (rb (blk_put (cs := #[.int .i64 t172, .int .i64 0, .string (⟨#[]⟩ : ByteArray), .slice none 0 0]) (rb (blk_put (cs := #[.int .i64 0, .int .i64 0, .string (⟨#[]⟩ : ByteArray), .slice none 0 0]) (rb BK168.out) 0 _ rfl)) 1 _ rfl)) 2 _ rfl)) 3 _ rfl)) Try.underlying54 rfl (by kernel_rfl)) rfl ?_
   exact ⟨_, by first | rfl | (simp [errW_none, errW_some] <;> rfl) | (simp [*, errW_none, errW_some] <;> rfl), kR (Kd.R_mono (Kd.R_far (p := ⟨gb168, 3, none⟩) (Kd.R_far (p := ⟨gb168, 2, none⟩) (Kd.R_far (p := ⟨gb168, 1, none⟩) (Kd.R_far (p := ⟨gb168, 0, none⟩) (Kd.R_mono HO177.out (fun k_ hk => (⟨hk, hk.2⟩ : _ ∧ k_ ≠ gb168))) (fun _ hk => hk.2) (.int .i64 t172)) (fun _ hk => hk.2) (.int .i64 t173)) (fun _ hk => hk.2) (.string t174)) (fun _ hk => hk.2) (.slice Ao11 t175.length co11)) (fun _ hk => trivial)), by repeat (first | (with_reducible first | exact HI0.out | apply IsS183.alloc | apply IsS183.drewN | apply IsS183.drew | apply IsS183.set_0 | apply IsS183.set_1 | refine IsS183.far ?_ NB0_168.out _) | exact HI0.out), by repeat (first | (with_reducible first | exact HB.out | apply below_alloc | apply pw_below_drewN | apply below_drew1 | refine below_set ?_ (IsS183.ge HI0.out) | refine below_set ?_ GE168.out) | exact HB.out), by repeat (first | (with_reducible first | exact HK.out | apply KeepBut.set_ | apply keep_drewN | apply keep_drew | apply keep_alloc | refine keep_far ?_ GW168.out _) | exact HK.out)⟩
  ·rw [if_neg c4] at H
   have c4b0 : ((wrap64 (t169)) == 0) = false := beq_eq_false_iff_ne.mpr c4
   have c4b1 : ((wrap64 (t169)) != 0) = true := bne_iff_ne.mpr c4
   replace H := Option.bind_eq_some_iff.mp H
   obtain ⟨⟨t178, t179, t180⟩, A120, H⟩ := H
   replace H : (if 0 ≤ (wrap64 (8 * (wrap64 ((wrap64 (t169)) - 1)))) then (if (shr .u64 t178 (wrap64 (8 * (wrap64 ((wrap64 (t169)) - 1))))) = 0 then (none) else ((words_Unfold.f t178).bind fun t181 => ((pack_Num.f t181).bind fun bt182 => (some (bt182.1, bt182.2.1, bt182.2.2.1, bt182.2.2.2, t179, t180))))) else (none)) = some (r1, r2, r3, r4, r5, r6) := H
   have A12 := Aside0.mk A120
   clear A120
   obtain ⟨ji13, hji13⟩ : ∃ j_ : Int, (wrap64 (8 * (wrap64 ((wrap64 (t169)) - 1)))) = j_ := ⟨_, rfl⟩
   replace H : (if 0 ≤ (ji13) then (if (shr .u64 t178 (ji13)) = 0 then (none) else ((words_Unfold.f t178).bind fun t181 => ((pack_Num.f t181).bind fun bt182 => (some (bt182.1, bt182.2.1, bt182.2.2.1, bt182.2.2.2, t179, t180))))) else (none)) = some (r1, r2, r3, r4, r5, r6) := by first | (rw [hji13] at H; exact H) | (simp only [hji13] at H ⊢; exact H)
   (try rw [hji13] at A2)
   (try rw [hji13] at A12)
   have hji13w : (IntKind.i64.wrap (8 * (wrap64 ((wrap64 (t169)) - 1)))) = ji13 := (i64_w _).trans hji13
   by_cases c14 : 0 ≤ (ji13)
   ·rw [if_pos c14] at H
    have c14b0 := eq_true c14
    have c14b1 : decide (0 ≤ (ji13)) = true := decide_eq_true c14
    clear c14
    obtain ⟨ji15, hji15⟩ : ∃ j_ : Int, (shr .u64 t178 (ji13)) = j_ := ⟨_, rfl⟩
    replace H : (if (ji15) = 0 then (none) else ((words_Unfold.f t178).bind fun t181 => ((pack_Num.f t181).bind fun bt182 => (some (bt182.1, bt182.2.1, bt182.2.2.1, bt182.2.2.2, t179, t180))))) = some (r1, r2, r3, r4, r5, r6) := by first | (rw [hji15] at H; exact H) | (simp only [hji15] at H ⊢; exact H)
    (try rw [hji15] at A2)
    (try rw [hji15] at A12)
    have hji15_ : (t178 / 2 ^ min (ji13).toNat 64) = ji15 := hji15
    have hji15z : (ji13) ≤ 64 → (t178 / 2 ^ (ji13).toNat) = ji15 := shr_small hji15
    by_cases c16 : (ji15) = 0
    ·rw [if_pos c16] at H
     exact absurd H (by simp)
    ·rw [if_neg c16] at H
     have c16b0 : ((ji15) == 0) = false := beq_eq_false_iff_ne.mpr c16
     have c16b1 : ((ji15) != 0) = true := bne_iff_ne.mpr c16
     replace H := Option.bind_eq_some_iff.mp H
     obtain ⟨t181, A170, H⟩ := H
     replace H : ((pack_Num.f t181).bind fun bt182 => (some (bt182.1, bt182.2.1, bt182.2.2.1, bt182.2.2.2, t179, t180))) = some (r1, r2, r3, r4, r5, r6) := H
     have A17 := Aside0.mk A170
     clear A170
     replace H := Option.bind_eq_some_iff.mp H
     obtain ⟨⟨t182, t183, t184, t185⟩, A180, H⟩ := H
     replace H : (some (t182, t183, t184, t185, t179, t180)) = some (r1, r2, r3, r4, r5, r6) := H
     have A18 := Aside0.mk A180
     clear A180
     simp only [Option.some.injEq, Prod.mk.injEq] at H
     obtain ⟨rfl, rfl, rfl, rfl, rfl, rfl⟩ := H
     go_enter Try.func109, Try.ntmps109
     go_wp2_with (first | ((with_reducible refine gate_dst (N := 2) rfl ?_); refine box_event ?hg (N := 2) ?hd (cs := #[.int .i64 0, .int .i64 0, .string (⟨#[]⟩ : ByteArray), .slice none 0 0]) (t := 54) ?hr ?_; (case hd => rfl); (case hg => rfl); (case hr => first | (go_simp; done) | (go_simp; rfl)); intro gb168 hg w19 hbox hb; have n0_ := Aside0.mk (IsS183.below (by repeat (first | (with_reducible first | exact HI0.out | apply IsS183.alloc | apply IsS183.drewN | apply IsS183.drew | apply IsS183.set_0 | apply IsS183.set_1) | exact HI0.out)) hb); have n1_ := Aside0.mk (KeepBut.trans (by repeat (first | (with_reducible first | exact HK.out | apply KeepBut.set_ | apply keep_drewN | apply keep_drew | apply keep_alloc) | exact HK.out)) (KeepBut.of_below hb g none) (.inl rfl)); have n2_ := Aside0.mk (below_step (by repeat (first | (with_reducible first | exact HB.out | apply below_alloc | apply pw_below_drewN | apply below_drew1 | refine below_set ?_ (IsS183.ge HI0.out)) | exact HB.out)) hb); have n3_ := Aside0.mk (hbox); have n4_ := Aside0.mk ((by rw [hg]; exact (keep_size (w := w) (g := g) (row := none) (by repeat (first | (with_reducible first | exact HK.out | apply KeepBut.set_ | apply keep_drewN | apply keep_drew | apply keep_alloc) | exact HK.out))) : w.heap.size ≤ gb168)); have n5_ := Aside0.mk ((Nat.le_trans HW0.out (by rw [hg]; exact (keep_size (w := w) (g := g) (row := none) (by repeat (first | (with_reducible first | exact HK.out | apply KeepBut.set_ | apply keep_drewN | apply keep_drew | apply keep_alloc) | exact HK.out))) : w.heap.size ≤ gb168) : w0.heap.size ≤ gb168)); have n6_ := Aside0.mk ((by rw [hg]; exact Nat.ne_of_lt (IsS183.lt (show IsS183 w0 _ g s0_0 s0_1 from by repeat (first | (with_reducible first | exact HI0.out | apply IsS183.alloc | apply IsS183.drewN | apply IsS183.drew | apply IsS183.set_0 | apply IsS183.set_1) | exact HI0.out))) : g ≠ gb168)); have n7_ := Aside0.mk ((by rw [hg]; exact Nat.ne_of_gt (IsS183.lt (show IsS183 w0 _ g s0_0 s0_1 from by repeat (first | (with_reducible first | exact HI0.out | apply IsS183.alloc | apply IsS183.drewN | apply IsS183.drew | apply IsS183.set_0 | apply IsS183.set_1) | exact HI0.out))) : gb168 ≠ g)); clear HI0; clear HK; clear HB; have HI0 := n0_; have HK := n1_; have HB := n2_; have BK168 := n3_; have GW168 := n4_; have GE168 := n5_; have NB0_168 := n6_; have NB168_0 := n7_; clear n0_ n1_ n2_ n3_ n4_ n5_ n6_ n7_; clear hb hbox hg) | ((with_reducible refine gate_callee (f := 108) rfl ?_); refine goesL_ (some 6) rfl rfl Try.func108 (by kernel_rfl) rfl #[.pointer (some ⟨g, 0, none⟩), .int .i64 1] rfl ag ?_; (with_reducible refine (pack_reader_number.calls k g s0_0 s0_1 1 t169 t170 t171 w0 _ ?side1 ?side2 A2.out).mono ?_); (case side1 => repeat (first | (with_reducible first | exact HI0.out | apply IsS183.alloc | apply IsS183.drewN | apply IsS183.drew | apply IsS183.set_0 | apply IsS183.set_1 | refine IsS183.far ?_ NB0_168.out _) | exact HI0.out)); (case side2 => repeat (first | (with_reducible first | exact HB.out | apply below_alloc | apply pw_below_drewN | apply below_drew1 | refine below_set ?_ (IsS183.ge HI0.out) | refine below_set ?_ GE168.out) | exact HB.out)); rintro e w20 ⟨rfl, hi, hb, hk⟩; refine ⟨_, rfl, ?_⟩; have n0_ := Aside0.mk (KeepBut.blk hk (g' := gb168) (o := .cells #[.int .i64 0, .int .i64 0, .string (⟨#[]⟩ : ByteArray), .slice none 0 0] 54 (0, 0)) (rb BK168.out) NB168_0.out (by simp)); have n1_ := Aside0.mk (KeepBut.trans (by repeat (first | (with_reducible first | exact HK.out | apply KeepBut.set_ | apply keep_drewN | apply keep_drew | apply keep_alloc | refine keep_far ?_ GW168.out _) | exact HK.out)) hk (.inl rfl)); have n2_ := Aside0.mk (hb); have n3_ := Aside0.mk (hi); clear BK168; clear HK; clear HB; clear HI0; have BK168 := n0_; have HK := n1_; have HB := n2_; have HI0 := n3_; clear n0_ n1_ n2_ n3_; (try clear hb); (try clear hb2); (try clear hk); (try clear hi)) | ((with_reducible refine gate_callee (f := 108) rfl ?_); refine goesL_ (some 18) rfl rfl Try.func108 (by kernel_rfl) rfl #[.pointer (some ⟨g, 0, none⟩), .int .i64 (wrap64 (t169))] rfl ag ?_; (with_reducible refine (pack_reader_number.calls k g t170 t171 (wrap64 (t169)) t178 t179 t180 w0 _ ?side1 ?side2 A12.out).mono ?_); (case side1 => repeat (first | (with_reducible first | exact HI0.out | apply IsS183.alloc | apply IsS183.drewN | apply IsS183.drew | apply IsS183.set_0 | apply IsS183.set_1 | refine IsS183.far ?_ NB0_168.out _) | exact HI0.out)); (case side2 => repeat (first | (with_reducible first | exact HB.out | apply below_alloc | apply pw_below_drewN | apply below_drew1 | refine below_set ?_ (IsS183.ge HI0.out) | refine below_set ?_ GE168.out) | exact HB.out)); rintro e w21 ⟨rfl, hi, hb, hk⟩; refine ⟨_, rfl, ?_⟩; have n0_ := Aside0.mk (KeepBut.blk hk (g' := gb168) (o := .cells #[.int .i64 0, .int .i64 0, .string (⟨#[]⟩ : ByteArray), .slice none 0 0] 54 (0, 0)) (rb BK168.out) NB168_0.out (by simp)); have n1_ := Aside0.mk (KeepBut.trans (by repeat (first | (with_reducible first | exact HK.out | apply KeepBut.set_ | apply keep_drewN | apply keep_drew | apply keep_alloc | refine keep_far ?_ GW168.out _) | exact HK.out)) hk (.inl rfl)); have n2_ := Aside0.mk (hb); have n3_ := Aside0.mk (hi); clear BK168; clear HK; clear HB; clear HI0; have BK168 := n0_; have HK := n1_; have HB := n2_; have HI0 := n3_; clear n0_ n1_ n2_ n3_; (try clear hb); (try clear hb2); (try clear hk); (try clear hi)) | ((with_reducible refine gate_callee (f := 117) rfl ?_); refine goesL_ (some 27) rfl rfl Try.func117 (by kernel_rfl) rfl #[.int .u64 t178] rfl ag ?_; (with_reducible refine (words_Unfold.calls t178 t181 _ A17.out).mono ?_); rintro e w' ⟨rfl, ⟨nd, rfl⟩⟩; refine ⟨_, rfl, ?_⟩; (try (rw [drewN_self w21]; generalize hq_ : World.drewN w21 _ = w21; have n0_ : Aside0 (w21.heap[gb168]? = some (.cells #[.int .i64 0, .int .i64 0, .string (⟨#[]⟩ : ByteArray), .slice none 0 0] 54 (0, 0))) := ⟨by rw [← hq_]; exact (rb BK168.out)⟩; have n1_ : Aside0 (IsS183 w0 w21 g t179 t180) := ⟨by rw [← hq_]; exact (by repeat (first | (with_reducible first | exact HI0.out | apply IsS183.alloc | apply IsS183.drewN | apply IsS183.drew | apply IsS183.set_0 | apply IsS183.set_1 | refine IsS183.far ?_ NB0_168.out _) | exact HI0.out))⟩; have n2_ : Aside0 (KeepBut w w21 g none) := ⟨by rw [← hq_]; exact (by repeat (first | (with_reducible first | exact HK.out | apply KeepBut.set_ | apply keep_drewN | apply keep_drew | apply keep_alloc | refine keep_far ?_ GW168.out _) | exact HK.out))⟩; have n3_ : Aside0 (Below w0.heap.size w0 w21) := ⟨by rw [← hq_]; exact (by repeat (first | (with_reducible first | exact HB.out | apply below_alloc | apply pw_below_drewN | apply below_drew1 | refine below_set ?_ (IsS183.ge HI0.out) | refine below_set ?_ GE168.out) | exact HB.out))⟩; clear BK168 HI0 HK HB hq_; have BK168 := n0_; have HI0 := n1_; have HK := n2_; have HB := n3_; clear n0_ n1_ n2_ n3_))) | ((with_reducible refine gate_callee (f := 48) rfl ?_); refine goesL_ (some 28) rfl rfl Try.func48 (by kernel_rfl) rfl #[.int .i64 t181] rfl ag ?_; (with_reducible refine (pack_Num.calls t181 t182 t183 t184 t185 _ A18.out).mono ?_); rintro e w22 ⟨v186, rfl, ho0, hb⟩; refine ⟨_, rfl, ?_⟩; have n0_ := Aside0.mk (Kd.R_lower (Kd.R_newB ho0 (g := gb168) (o := .cells #[.int .i64 0, .int .i64 0, .string (⟨#[]⟩ : ByteArray), .slice none 0 0] 54 (0, 0)) (rb BK168.out)) (keep_size (w := w) (g := g) (row := none) (by repeat (first | (with_reducible first | exact HK.out | apply KeepBut.set_ | apply keep_drewN | apply keep_drew | apply keep_alloc | refine keep_far ?_ GW168.out _) | exact HK.out)))); have n1_ := Aside0.mk (IsS183.below (by repeat (first | (with_reducible first | exact HI0.out | apply IsS183.alloc | apply IsS183.drewN | apply IsS183.drew | apply IsS183.set_0 | apply IsS183.set_1 | refine IsS183.far ?_ NB0_168.out _) | exact HI0.out)) hb); have n2_ := Aside0.mk (blk_below (g := gb168) (o := .cells #[.int .i64 0, .int .i64 0, .string (⟨#[]⟩ : ByteArray), .slice none 0 0] 54 (0, 0)) (rb BK168.out) hb); have n3_ := Aside0.mk (KeepBut.trans (by repeat (first | (with_reducible first | exact HK.out | apply KeepBut.set_ | apply keep_drewN | apply keep_drew | apply keep_alloc | refine keep_far ?_ GW168.out _) | exact HK.out)) (KeepBut.of_below hb g none) (.inl rfl)); have n4_ := Aside0.mk (below_step (by repeat (first | (with_reducible first | exact HB.out | apply below_alloc | apply pw_below_drewN | apply below_drew1 | refine below_set ?_ (IsS183.ge HI0.out) | refine below_set ?_ GE168.out) | exact HB.out)) hb); clear HI0; clear BK168; clear HK; clear HB; have HO187 := n0_; have HI0 := n1_; have BK168 := n2_; have HK := n3_; have HB := n4_; clear n0_ n1_ n2_ n3_ n4_; (try clear hb); (try clear hb2); (try clear hk); (try clear hi); (try clear ho0); have hnb23 := NB168_0.out; have hnc23 := NB0_168.out; have hcz24_0 : w22.cell? ⟨gb168, 0, none⟩ = some (.int .i64 0) := (blk_cell BK168.out 0).trans rfl; have hcz24_1 : w22.cell? ⟨gb168, 1, none⟩ = some (.int .i64 0) := (blk_cell BK168.out 1).trans rfl; have hcz24_2 : w22.cell? ⟨gb168, 2, none⟩ = some (.string (⟨#[]⟩ : ByteArray)) := (blk_cell BK168.out 2).trans rfl; have hcz24_3 : w22.cell? ⟨gb168, 3, none⟩ = some (.slice none 0 0) := (blk_cell BK168.out 3).trans rfl; have hfz24_0 := blk_frozen BK168.out 0; have hfz24_1 := blk_frozen BK168.out 1; have hfz24_2 := blk_frozen BK168.out 2; have hfz24_3 := blk_frozen BK168.out 3; obtain ⟨Ao25, co25, eo25⟩ := Kd.R_slice HO187.out; subst eo25))
     refine bodyPost_ret (results_cell_row rfl _ _ gb168 54 #[.int .i64 t182, .int .i64 t183, .string t184, .slice Ao25 t185.length co25] (0, 0) _ rfl (rb (blk_put (cs := #[.int .i64 t182, .int .i64 t183, .string t184, .slice none 0 0]) (rb (blk_put (cs := #[.int .i64 t182, .int .i64 t183, .string (⟨#[]⟩ : ByteArray), .slice none 0 0]) (rb (blk_put (cs := #[.int .i64 t182, .int .i64 0, .string (⟨#[]⟩ : ByteArray), .slice none 0 0]) (rb (blk_put (cs := #[.int .i64 0, .int .i64 0, .string (⟨#[]⟩ : ByteArray), .slice none 0 0]) (rb BK168.out) 0 _ rfl)) 1 _ rfl)) 2 _ rfl)) 3 _ rfl)) Try.underlying54 rfl (by kernel_rfl)) rfl ?_
     exact ⟨_, by first | rfl | (simp [errW_none, errW_some] <;> rfl) | (simp only [← hji13, ← hji15]; first | rfl | (simp [errW_none, errW_some] <;> rfl)) | (simp [*, errW_none, errW_some] <;> rfl), kR (Kd.R_mono (Kd.R_far (p := ⟨gb168, 3, none⟩) (Kd.R_far (p := ⟨gb168, 2, none⟩) (Kd.R_far (p := ⟨gb168, 1, none⟩) (Kd.R_far (p := ⟨gb168, 0, none⟩) (Kd.R_mono HO187.out (fun k_ hk => (⟨hk, hk.2⟩ : _ ∧ k_ ≠ gb168))) (fun _ hk => hk.2) (.int .i64 t182)) (fun _ hk => hk.2) (.int .i64 t183)) (fun _ hk => hk.2) (.string t184)) (fun _ hk => hk.2) (.slice Ao25 t185.length co25)) (fun _ hk => trivial)), by repeat (first | (with_reducible first | exact HI0.out | apply IsS183.alloc | apply IsS183.drewN | apply IsS183.drew | apply IsS183.set_0 | apply IsS183.set_1 | refine IsS183.far ?_ NB0_168.out _) | exact HI0.out), by repeat (first | (with_reducible first | exact HB.out | apply below_alloc | apply pw_below_drewN | apply below_drew1 | refine below_set ?_ (IsS183.ge HI0.out) | refine below_set ?_ GE168.out) | exact HB.out), by repeat (first | (with_reducible first | exact HK.out | apply KeepBut.set_ | apply keep_drewN | apply keep_drew | apply keep_alloc | refine keep_far ?_ GW168.out _) | exact HK.out)⟩
   ·rw [if_neg c14] at H
    exact absurd H (by simp)

end Go.Proofs.Ytjicfkmpgogppaa.PA
-- printed by a program of this session out of the translation; see NOTES.md
namespace Go.Proofs.Ytjicfkmpgogppaa.PA
open Go.RowKit Go.Proofs.YtjicfkmpgogppaaW.PrintWords Go.Proofs.YtjicfkmpgogppaaW.PrintLast Go.Proofs.YtjicfkmpgogppaaW.PrintMore Go.Proofs.YtjicfkmpgogppaaRb
attribute [local go_sem] max2_int min2_int max_two min_two max_three min_three max_four min_four   -- for this text's walks alone
set_option linter.unusedVariables false
set_option linter.unusedSimpArgs false

/-! ### words_GetText: function 110 -/
def words_GetText.f (k : Nat) (a0 : ByteArray) (a1 : Int) : Option (ByteArray × Int × Int) := (words_Get.f k a0 a1 2).bind fun bt188 => (if bt188.2.2 = 0 then (if (IntKind.u64.wrap (wrap64 ((a0.size : Int) - bt188.2.1))) < bt188.1 then (some ((⟨#[]⟩ : ByteArray), 0, 3)) else (if 0 ≤ bt188.2.1 then (if bt188.2.1 ≤ (wrap64 (bt188.2.1 + (wrap64 (bt188.1)))) then (if (wrap64 (bt188.2.1 + (wrap64 (bt188.1)))) ≤ (a0.size : Int) then (some (a0.extract (bt188.2.1 : Int).toNat ((wrap64 (bt188.2.1 + (wrap64 (bt188.1)))) : Int).toNat, wrap64 (bt188.2.1 + (wrap64 (bt188.1))), 0)) else (none)) else (none)) else (none))) else (some ((⟨#[]⟩ : ByteArray), 0, bt188.2.2)))
theorem words_GetText.mono : ∀ a0 a1 k, LeO (words_GetText.f k a0 a1) (words_GetText.f (k + 1) a0 a1) := by
 intro a0 a1 k
 unfold words_GetText.f
 repeat' first
   | (with_reducible exact words_Get.mono _ _ _ _)
   | (with_reducible exact LeO.refl _)
   | (with_reducible exact LeO.none _)
   | (with_reducible refine LeO.ite ?_ ?_)
   | (with_reducible refine LeO.bind ?_ (fun _ => ?_))
   | exact words_Get.mono _ _ _ _
   | exact LeO.none _
   | refine LeO.ite ?_ ?_
   | refine LeO.bind ?_ (fun _ => ?_)
set_option maxHeartbeats 8000000 in
set_option maxRecDepth 100000 in
theorem words_GetText.calls (k : Nat) (a0 : ByteArray) (a1 : Int) (r1 : ByteArray) (r2 : Int) (r3 : Int) (w : World) (h : words_GetText.f k a0 a1 = some (r1, r2, r3)) :
  Calls Try.prog 110 #[.string a0, .int .i64 a1] w fun e w' => e = .returned (.tuple #[.string r1, .int .i64 r2, .int .i64 r3]) ∧ Drawn0 w w' := by
 have H : ((words_Get.f k a0 a1 2).bind fun bt188 => (if bt188.2.2 = 0 then (if (IntKind.u64.wrap (wrap64 ((a0.size : Int) - bt188.2.1))) < bt188.1 then (some ((⟨#[]⟩ : ByteArray), 0, 3)) else (if 0 ≤ bt188.2.1 then (if bt188.2.1 ≤ (wrap64 (bt188.2.1 + (wrap64 (bt188.1)))) then (if (wrap64 (bt188.2.1 + (wrap64 (bt188.1)))) ≤ (a0.size : Int) then (some (a0.extract (bt188.2.1 : Int).toNat ((wrap64 (bt188.2.1 + (wrap64 (bt188.1)))) : Int).toNat, wrap64 (bt188.2.1 + (wrap64 (bt188.1))), 0)) else (none)) else (none)) else (none))) else (some ((⟨#[]⟩ : ByteArray), 0, bt188.2.2)))) = some (r1, r2, r3) := h
 clear h
 replace H := Option.bind_eq_some_iff.mp H
 obtain ⟨⟨t188, t189, t190⟩, A30, H⟩ := H
 replace H : (if t190 = 0 then (if (IntKind.u64.wrap (wrap64 ((a0.size : Int) - t189))) < t188 then (some ((⟨#[]⟩ : ByteArray), 0, 3)) else (if 0 ≤ t189 then (if t189 ≤ (wrap64 (t189 + (wrap64 (t188)))) then (if (wrap64 (t189 + (wrap64 (t188)))) ≤ (a0.size : Int) then (some (a0.extract (t189 : Int).toNat ((wrap64 (t189 + (wrap64 (t188)))) : Int).toNat, wrap64 (t189 + (wrap64 (t188))), 0)) else (none)) else (none)) else (none))) else (some ((⟨#[]⟩ : ByteArray), 0, t190))) = some (r1, r2, r3) := H
 have A3 := Aside0.mk A30
 clear A30
 by_cases c4 : t190 = 0
 ·rw [if_pos c4] at H
  have c4b0 : (t190 == 0) = true := beq_iff_eq.mpr c4
  have c4b1 : (t190 != 0) = false := bne_eq_false_iff_eq.mpr c4
  clear c4
  by_cases c5 : (IntKind.u64.wrap (wrap64 ((a0.size : Int) - t189))) < t188
  ·rw [if_pos c5] at H
   have c5b0 : decide ((IntKind.u64.wrap (wrap64 ((a0.size : Int) - t189))) < t188) = true := decide_eq_true c5
   clear c5
   simp only [Option.some.injEq, Prod.mk.injEq] at H
   obtain ⟨rfl, rfl, rfl⟩ := H
   go_enter Try.func110, Try.ntmps110
   go_wp2_with (first | ((with_reducible refine gate_callee (f := 116) rfl ?_); refine goesL_ (some 13) rfl rfl Try.func116 (by kernel_rfl) rfl #[.string a0, .int .i64 a1, .int .i64 2] rfl ag ?_; (with_reducible refine (words_Get.calls k a0 a1 2 t188 t189 t190 _ A3.out).mono ?_); rintro e w' ⟨rfl, ⟨nd, rfl⟩⟩; refine ⟨_, rfl, ?_⟩))
   go_ret3
   exact ⟨by first | rfl | (simp; done) | (simp [*]; done), by repeat (first | exact Drawn0.refl _ | apply Drawn0.step)⟩
  ·rw [if_neg c5] at H
   have c5b0 : decide ((IntKind.u64.wrap (wrap64 ((a0.size : Int) - t189))) < t188) = false := decide_eq_false c5
   clear c5
   by_cases c6 : 0 ≤ t189
   ·rw [if_pos c6] at H
    have c6b0 := eq_true c6
    have c6b1 : decide (0 ≤ t189) = true := decide_eq_true c6
    clear c6
    by_cases c7 : t189 ≤ (wrap64 (t189 + (wrap64 (t188))))
    ·rw [if_pos c7] at H
     have c7b0 := eq_true c7
     have c7b1 : decide (t189 ≤ (wrap64 (t189 + (wrap64 (t188))))) = true := decide_eq_true c7
     by_cases c8 : (wrap64 (t189 + (wrap64 (t188)))) ≤ (a0.size : Int)
     ·rw [if_pos c8] at H
      have c8b0 := eq_true c8
      have c8b1 : decide ((wrap64 (t189 + (wrap64 (t188)))) ≤ (a0.size : Int)) = true := decide_eq_true c8
      simp only [Option.some.injEq, Prod.mk.injEq] at H
      obtain ⟨rfl, rfl, rfl⟩ := H
      go_enter Try.func110, Try.ntmps110
      go_wp2_with (first | ((with_reducible refine gate_callee (f := 116) rfl ?_); refine goesL_ (some 13) rfl rfl Try.func116 (by kernel_rfl) rfl #[.string a0, .int .i64 a1, .int .i64 2] rfl ag ?_; (with_reducible refine (words_Get.calls k a0 a1 2 t188 t189 t190 _ A3.out).mono ?_); rintro e w' ⟨rfl, ⟨nd, rfl⟩⟩; refine ⟨_, rfl, ?_⟩))
      go_ret3
      exact ⟨by first | rfl | (simp; done) | (simp [*]; done), by repeat (first | exact Drawn0.refl _ | apply Drawn0.step)⟩
     ·rw [if_neg c8] at H
      exact absurd H (by simp)
    ·rw [if_neg c7] at H
     exact absurd H (by simp)
   ·rw [if_neg c6] at H
    exact absurd H (by simp)
 ·rw [if_neg c4] at H
  have c4b0 : (t190 == 0) = false := beq_eq_false_iff_ne.mpr c4
  have c4b1 : (t190 != 0) = true := bne_iff_ne.mpr c4
  simp only [Option.some.injEq, Prod.mk.injEq] at H
  obtain ⟨rfl, rfl, rfl⟩ := H
  go_enter Try.func110, Try.ntmps110
  go_wp2_with (first | ((with_reducible refine gate_callee (f := 116) rfl ?_); refine goesL_ (some 13) rfl rfl Try.func116 (by kernel_rfl) rfl #[.string a0, .int .i64 a1, .int .i64 2] rfl ag ?_; (with_reducible refine (words_Get.calls k a0 a1 2 t188 t189 t190 _ A3.out).mono ?_); rintro e w' ⟨rfl, ⟨nd, rfl⟩⟩; refine ⟨_, rfl, ?_⟩))
  go_ret3
  exact ⟨by first | rfl | (simp; done) | (simp [*]; done), by repeat (first | exact Drawn0.refl _ | apply Drawn0.step)⟩

end Go.Proofs.Ytjicfkmpgogppaa.PA
-- printed by a program of this session out of the translation; see NOTES.md
namespace Go.Proofs.Ytjicfkmpgogppaa.PA
open Go.RowKit Go.Proofs.YtjicfkmpgogppaaW.PrintWords Go.Proofs.YtjicfkmpgogppaaW.PrintLast Go.Proofs.YtjicfkmpgogppaaW.PrintMore Go.Proofs.YtjicfkmpgogppaaRb
attribute [local go_sem] max2_int min2_int max_two min_two max_three min_three max_four min_four   -- for this text's walks alone
set_option linter.unusedVariables false
set_option linter.unusedSimpArgs false

/-! ### graph_shaped: function 61 -/
mutual
def graph_shaped.j0 : Nat → List Int → Bool → Int → Int → ByteArray → List (S54) → Option (Bool)
 | 0, _, _, _, _, _, _ => none
 | k + 1, x1, x17, x597000, x597001, x597002, x597003 => if x17 = true then (some false) else (graph_shaped.l0 k x1 (x1.length : Int) 0 x597000 x597001 x597002 x597003)
def graph_shaped.l0 : Nat → List Int → Int → Int → Int → Int → ByteArray → List (S54) → Option (Bool)
 | 0, _, _, _, _, _, _, _ => none
 | k + 1, x18, x19, x20, x597000, x597001, x597002, x597003 => if x20 < x19 then (if 0 ≤ x20 then (if x20 < (x18.length : Int) then (if x20 < (x597003.length : Int) then (if ((rd_T54 x597003 x20).f0) = (rd x18 x20) then (graph_shaped.l0 k x18 x19 (wrap64 (x20 + 1)) x597000 x597001 x597002 x597003) else (some false)) else (none)) else (none)) else (none)) else (some true)
end
def graph_shaped.f (k : Nat) (a0_0 : Int) (a0_1 : Int) (a0_2 : ByteArray) (l0_3 : List (S54)) (l1 : List Int) : Option (Bool) := if a0_0 = 2 then (graph_shaped.j0 k l1 ((l0_3.length : Int) != (l1.length : Int)) a0_0 a0_1 a0_2 l0_3) else (graph_shaped.j0 k l1 true a0_0 a0_1 a0_2 l0_3)
theorem graph_shaped.mono_l : ∀ k, (∀ y0 y1 y2 y3 y4 y5, LeO (graph_shaped.j0 k y0 y1 y2 y3 y4 y5) (graph_shaped.j0 (k + 1) y0 y1 y2 y3 y4 y5)) ∧ (∀ y0 y1 y2 y3 y4 y5 y6, LeO (graph_shaped.l0 k y0 y1 y2 y3 y4 y5 y6) (graph_shaped.l0 (k + 1) y0 y1 y2 y3 y4 y5 y6))
 | 0 => ⟨fun _ _ _ _ _ _ r h => by simp [graph_shaped.j0] at h, fun _ _ _ _ _ _ _ r h => by simp [graph_shaped.l0] at h⟩
 | k + 1 => by
  obtain ⟨ih0, ih1⟩ := graph_shaped.mono_l k
  refine ⟨?_, ?_⟩
  ·intro y0 y1 y2 y3 y4 y5
   unfold graph_shaped.j0
   repeat' first
   | (with_reducible exact ih0 _ _ _ _ _ _)
   | (with_reducible exact ih1 _ _ _ _ _ _ _)
   | (with_reducible exact LeO.refl _)
   | (with_reducible exact LeO.none _)
   | (with_reducible refine LeO.ite ?_ ?_)
   | (with_reducible refine LeO.bind ?_ (fun _ => ?_))
   | exact ih0 _ _ _ _ _ _
   | exact ih1 _ _ _ _ _ _ _
   | exact LeO.none _
   | refine LeO.ite ?_ ?_
   | refine LeO.bind ?_ (fun _ => ?_)
  ·intro y0 y1 y2 y3 y4 y5 y6
   unfold graph_shaped.l0
   repeat' first
   | (with_reducible exact ih0 _ _ _ _ _ _)
   | (with_reducible exact ih1 _ _ _ _ _ _ _)
   | (with_reducible exact LeO.refl _)
   | (with_reducible exact LeO.none _)
   | (with_reducible refine LeO.ite ?_ ?_)
   | (with_reducible refine LeO.bind ?_ (fun _ => ?_))
   | exact ih0 _ _ _ _ _ _
   | exact ih1 _ _ _ _ _ _ _
   | exact LeO.none _
   | refine LeO.ite ?_ ?_
   | refine LeO.bind ?_ (fun _ => ?_)
theorem graph_shaped.mono : ∀ a0 a1 a2 a3 a4 k, LeO (graph_shaped.f k a0 a1 a2 a3 a4) (graph_shaped.f (k + 1) a0 a1 a2 a3 a4) := by
 intro a0 a1 a2 a3 a4 k
 obtain ⟨ih0, ih1⟩ := graph_shaped.mono_l k
 unfold graph_shaped.f
 repeat' first
   | (with_reducible exact ih0 _ _ _ _ _ _)
   | (with_reducible exact ih1 _ _ _ _ _ _ _)
   | (with_reducible exact LeO.refl _)
   | (with_reducible exact LeO.none _)
   | (with_reducible refine LeO.ite ?_ ?_)
   | (with_reducible refine LeO.bind ?_ (fun _ => ?_))
   | exact ih0 _ _ _ _ _ _
   | exact ih1 _ _ _ _ _ _ _
   | exact LeO.none _
   | refine LeO.ite ?_ ?_
   | refine LeO.bind ?_ (fun _ => ?_)
set_option maxHeartbeats 8000000 in
set_option maxRecDepth 100000 in
theorem graph_shaped.calls (k : Nat) (a0_0 : Int) (a0_1 : Int) (a0_2 : ByteArray) (A0_3 : Option Addr) (c0_3 : Nat) (l0_3 : List (S54)) (A1 : Option Addr) (c1 : Nat) (l1 : List Int) (r : Bool) (w : World) (hr0_3 : Kd.C k54 w A0_3 l0_3.length l0_3) (hc0_3 : l0_3.length ≤ c0_3) (hr1 : Kd.C (Kd.int .i64) w A1 l1.length l1) (hc1 : l1.length ≤ c1) (h : graph_shaped.f k a0_0 a0_1 a0_2 l0_3 l1 = some r) :
  Calls Try.prog 61 #[.agg #[.int .i64 a0_0, .int .i64 a0_1, .string a0_2, .slice A0_3 l0_3.length c0_3], .slice A1 l1.length c1] w fun e w' => e = .returned (.bool r) ∧ Below w.heap.size w w' := by
 have hu54 := Try.underlying54
 have HR0_3 := Aside0.mk hr0_3
 have HC0_3 := Aside0.mk hc0_3
 clear hr0_3 hc0_3
 have HR1 := Aside0.mk hr1
 have HC1 := Aside0.mk hc1
 clear hr1 hc1
 have HB := Aside0.mk (Below.refl w.heap.size w)
 have H : (if a0_0 = 2 then (graph_shaped.j0 k l1 ((l0_3.length : Int) != (l1.length : Int)) a0_0 a0_1 a0_2 l0_3) else (graph_shaped.j0 k l1 true a0_0 a0_1 a0_2 l0_3)) = some r := h
 clear h
 have HC3 := Aside0.mk H
 clear H
 go_enter Try.func61, Try.ntmps61
 go_upto_region 1 with (first | ((with_reducible refine gate_dst (N := 2) rfl ?_); (try (refine gate_guard (by rfl) ?_; dsimp only)); refine box_event ?hg (N := 2) ?hd (cs := #[.int .i64 a0_0, .int .i64 a0_1, .string a0_2, .slice A0_3 l0_3.length c0_3]) (t := 54) ?hr ?_; (case hd => rfl); (case hg => rfl); (case hr => first | (go_simp; done) | (go_simp; rfl)); intro gb596 hg w4 hbox hb; have n0_ := Aside0.mk (below_step bb hb); have n1_ := Aside0.mk (hbox); have n2_ := Aside0.mk ((by rw [hg]; exact (below_size bb) : w.heap.size ≤ gb596)); have n3_ := Aside0.mk ((by rw [hg]; exact (below_size bb) : w.heap.size ≤ gb596)); clear HB; have HB := n0_; have BK596 := n1_; have GW596 := n2_; have GE596 := n3_; clear n0_ n1_ n2_ n3_; clear hb hbox hg))
 (try simp only [Act.put, List.setIfInBounds_toArray, List.set_cons_zero, List.set_cons_succ])
 go_cut [17] (fun v17 wc => ∃ (kq : Nat) (x17_2 : Bool), v17 = .bool x17_2 ∧ Aside0 (graph_shaped.j0 kq l1 x17_2 a0_0 a0_1 a0_2 l0_3 = some r) ∧ Aside0 (kq ≤ k) ∧ Aside0 (wc.heap[gb596]? = some (.cells #[.int .i64 a0_0, .int .i64 a0_1, .string a0_2, (.slice A0_3 l0_3.length c0_3)] 54 (0, 0))) ∧ Aside0 (Below w.heap.size w wc))
 case first =>
  have H := HC3.out
  clear HC3
  by_cases c5 : a0_0 = 2
  ·rw [if_pos c5] at H
   have c5b0 : (a0_0 == 2) = true := beq_iff_eq.mpr c5
   have c5b1 : (a0_0 != 2) = false := bne_eq_false_iff_eq.mpr c5
   clear c5
   (first | rw [c5b0] | (simp only [i64_w, i32_w]; rw [c5b0]) | skip)
   have H' := Aside0.mk H
   clear H
   have hcz6_0 : w4.cell? ⟨gb596, 0, none⟩ = some (.int .i64 a0_0) := (blk_cell BK596.out 0).trans rfl
   have hcz6_1 : w4.cell? ⟨gb596, 1, none⟩ = some (.int .i64 a0_1) := (blk_cell BK596.out 1).trans rfl
   have hcz6_2 : w4.cell? ⟨gb596, 2, none⟩ = some (.string a0_2) := (blk_cell BK596.out 2).trans rfl
   have hcz6_3 : w4.cell? ⟨gb596, 3, none⟩ = some (.slice A0_3 l0_3.length c0_3) := (blk_cell BK596.out 3).trans rfl
   have hfz6_0 := blk_frozen BK596.out 0
   have hfz6_1 := blk_frozen BK596.out 1
   have hfz6_2 := blk_frozen BK596.out 2
   have hfz6_3 := blk_frozen BK596.out 3
   go_wp2
   go_meet
   case rel => exact ⟨_, (((l0_3.length : Int) != (l1.length : Int))), (by first | rfl | (simp; done) | (simp [*]; done)), H', ⟨by first | omega | exact Nat.le_refl _⟩, ⟨by (with_reducible repeat (first | refine blk_drewN ?_ _ | refine blk_drew ?_ | refine blk_alloc ?_ _)); exact BK596.out⟩, ⟨bb⟩⟩
  ·rw [if_neg c5] at H
   have c5b0 : (a0_0 == 2) = false := beq_eq_false_iff_ne.mpr c5
   have c5b1 : (a0_0 != 2) = true := bne_iff_ne.mpr c5
   (first | rw [c5b0] | (simp only [i64_w, i32_w]; rw [c5b0]) | skip)
   have H' := Aside0.mk H
   clear H
   have hcz7_0 : w4.cell? ⟨gb596, 0, none⟩ = some (.int .i64 a0_0) := (blk_cell BK596.out 0).trans rfl
   have hcz7_1 : w4.cell? ⟨gb596, 1, none⟩ = some (.int .i64 a0_1) := (blk_cell BK596.out 1).trans rfl
   have hcz7_2 : w4.cell? ⟨gb596, 2, none⟩ = some (.string a0_2) := (blk_cell BK596.out 2).trans rfl
   have hcz7_3 : w4.cell? ⟨gb596, 3, none⟩ = some (.slice A0_3 l0_3.length c0_3) := (blk_cell BK596.out 3).trans rfl
   have hfz7_0 := blk_frozen BK596.out 0
   have hfz7_1 := blk_frozen BK596.out 1
   have hfz7_2 := blk_frozen BK596.out 2
   have hfz7_3 := blk_frozen BK596.out 3
   go_wp2
   go_meet
   case rel => exact ⟨_, (true), (by first | rfl | (simp; done) | (simp [*]; done)), H', ⟨by first | omega | exact Nat.le_refl _⟩, ⟨by (with_reducible repeat (first | refine blk_drewN ?_ _ | refine blk_drew ?_ | refine blk_alloc ?_ _)); exact BK596.out⟩, ⟨bb⟩⟩
 case rest =>
  clear HC3
  try clear c1
  try clear p2
  try clear c5
  try clear c5b0
  try clear c5b1
  try clear c6
  try clear hcz6_0
  try clear hcz6_1
  try clear hcz6_2
  try clear hcz6_3
  try clear hcz7_0
  try clear hcz7_1
  try clear hcz7_2
  try clear hcz7_3
  try clear hfz6_0
  try clear hfz6_1
  try clear hfz6_2
  try clear hfz6_3
  try clear hfz7_0
  try clear hfz7_1
  try clear hfz7_2
  try clear hfz7_3
  obtain ⟨kq, x17_2, rfl, HA, HJ2, BK596, HB⟩ := hcut
  cases kq with
  | zero => exact absurd HA.out (by simp [graph_shaped.j0])
  | succ kj2 =>
   have H := HA.out
   clear HA
   simp only [graph_shaped.j0] at H
   by_cases c8 : x17_2 = true
   ·subst c8
    have H1 : (some false) = some r := by rw [if_pos rfl] at H; exact H
    clear H
    have H := H1
    clear H1
    obtain rfl := Option.some.inj H
    go_wp2
    go_ret
    exact ⟨by first | rfl | (simp [errW_none, errW_some] <;> rfl) | (simp [*, errW_none, errW_some] <;> rfl), bb⟩
   ·replace c8 := Bool.eq_false_iff.mpr c8
    subst c8
    have H1 : (graph_shaped.l0 kj2 l1 (l1.length : Int) 0 a0_0 a0_1 a0_2 l0_3) = some r := by rw [if_neg (show ¬ (false = true) by decide)] at H; exact H
    clear H
    have H := H1
    clear H1
    have H' := Aside0.mk H
    clear H
    go_wp2
    go_loopg [20] kj2 (fun kq v20 w' => ∃ (x20_2 : Int), v20 = .int .i64 x20_2 ∧ Aside0 (graph_shaped.l0 kq l1 (l1.length : Int) x20_2 a0_0 a0_1 a0_2 l0_3 = some r) ∧ Aside0 (kq ≤ kj2) ∧ Aside0 (w'.heap[gb596]? = some (.cells #[.int .i64 a0_0, .int .i64 a0_1, .string a0_2, (.slice A0_3 l0_3.length c0_3)] 54 (0, 0))) ∧ Aside0 (Below w.heap.size w w'))
    case atStart => exact ⟨(0), (by first | rfl | (simp; done) | (simp [*]; done)), H', ⟨Nat.le_refl _⟩, ⟨by (with_reducible repeat (first | refine blk_drewN ?_ _ | refine blk_drew ?_ | refine blk_alloc ?_ _)); exact BK596.out⟩, ⟨bb⟩⟩
    case round =>
     clear H'
     try clear c1
     try clear p2
     try clear c5
     try clear c5b0
     try clear c5b1
     try clear c6
     try clear c8
     try clear hcz6_0
     try clear hcz6_1
     try clear hcz6_2
     try clear hcz6_3
     try clear hcz7_0
     try clear hcz7_1
     try clear hcz7_2
     try clear hcz7_3
     try clear hfz6_0
     try clear hfz6_1
     try clear hfz6_2
     try clear hfz6_3
     try clear hfz7_0
     try clear hfz7_1
     try clear hfz7_2
     try clear hfz7_3
     try clear p2
     obtain ⟨x20_2, rfl, HA, HK2, BK596, HB⟩ := hrel
     cases gk with
     | zero => exact absurd HA.out (by simp [graph_shaped.l0])
     | succ k2 =>
      have H := HA.out
      clear HA
      simp only [graph_shaped.l0] at H
      by_cases c9 : x20_2 < (l1.length : Int)
      ·rw [if_pos c9] at H
       have c9b0 : decide (x20_2 < (l1.length : Int)) = true := decide_eq_true c9
       clear c9
       by_cases c10 : 0 ≤ x20_2
       ·rw [if_pos c10] at H
        have c10b0 : decide (0 ≤ x20_2) = true := decide_eq_true c10
        clear c10
        by_cases c11 : x20_2 < (l1.length : Int)
        ·rw [if_pos c11] at H
         have c11b0 : decide (x20_2 < (l1.length : Int)) = true := decide_eq_true c11
         clear c11
         by_cases c12 : x20_2 < (l0_3.length : Int)
         ·rw [if_pos c12] at H
          have c12b0 : decide (x20_2 < (l0_3.length : Int)) = true := decide_eq_true c12
          clear c12
          by_cases c13 : ((rd_T54 l0_3 x20_2).f0) = (rd l1 x20_2)
          ·rw [if_pos c13] at H
           have c13b0 : (((rd_T54 l0_3 x20_2).f0) == (rd l1 x20_2)) = true := beq_iff_eq.mpr c13
           have c13b1 : (((rd_T54 l0_3 x20_2).f0) != (rd l1 x20_2)) = false := bne_eq_false_iff_eq.mpr c13
           clear c13
           have H' := Aside0.mk H
           clear H
           have p597 : 0 ≤ (x20_2 : Int) := of_decide_eq_true (by first | (with_reducible assumption) | assumption)
           have q597 : x20_2 < (l1.length : Int) := of_decide_eq_true (by first | (with_reducible assumption) | assumption)
           obtain ⟨ad597, e597, hx597_0⟩ := Kd.at_int HR1.out x20_2 p597 q597
           cases e597
           replace hx597_0 := (HB.out.cell (World.block_lt_of_cell? w _ hx597_0)).trans hx597_0
           replace p597 := eq_true p597
           replace q597 := eq_true q597
           have hcz14_0 : wr.cell? ⟨gb596, 0, none⟩ = some (.int .i64 a0_0) := (blk_cell BK596.out 0).trans rfl
           have hcz14_1 : wr.cell? ⟨gb596, 1, none⟩ = some (.int .i64 a0_1) := (blk_cell BK596.out 1).trans rfl
           have hcz14_2 : wr.cell? ⟨gb596, 2, none⟩ = some (.string a0_2) := (blk_cell BK596.out 2).trans rfl
           have hcz14_3 : wr.cell? ⟨gb596, 3, none⟩ = some (.slice A0_3 l0_3.length c0_3) := (blk_cell BK596.out 3).trans rfl
           have hfz14_0 := blk_frozen BK596.out 0
           have hfz14_1 := blk_frozen BK596.out 1
           have hfz14_2 := blk_frozen BK596.out 2
           have hfz14_3 := blk_frozen BK596.out 3
           have p598 : 0 ≤ (x20_2 : Int) := of_decide_eq_true (by first | (with_reducible assumption) | assumption)
           have q598 : x20_2 < (l0_3.length : Int) := of_decide_eq_true (by first | (with_reducible assumption) | assumption)
           obtain ⟨ad598, A598_3, c598_3, e598, hx598_0, hx598_1, hx598_2, hx598_3, hl598_3, hi598_3⟩ := at_T54 HR0_3.out x20_2 p598 q598
           cases e598
           replace hx598_0 := (HB.out.cell (World.block_lt_of_cell? w _ hx598_0)).trans hx598_0
           replace hx598_1 := (HB.out.cell (World.block_lt_of_cell? w _ hx598_1)).trans hx598_1
           replace hx598_2 := (HB.out.cell (World.block_lt_of_cell? w _ hx598_2)).trans hx598_2
           replace hx598_3 := (HB.out.cell (World.block_lt_of_cell? w _ hx598_3)).trans hx598_3
           have HR598_3 := Aside0.mk hi598_3
           have HC598_3 := Aside0.mk hl598_3
           clear hi598_3 hl598_3
           replace p598 := eq_true p598
           replace q598 := eq_true q598
           go_wp2
           go_roundg k2
           case measure => have := HJ2.out; have := HK2.out; omega
           case rel => exact ⟨(wrap64 (x20_2 + 1)), (by first | rfl | (simp; done) | (simp [*]; done)), H', ⟨by have := HJ2.out; have := HK2.out; omega⟩, ⟨by (with_reducible repeat (first | refine blk_drewN ?_ _ | refine blk_drew ?_ | refine blk_alloc ?_ _)); exact BK596.out⟩, ⟨bb⟩⟩
          ·rw [if_neg c13] at H
           have c13b0 : (((rd_T54 l0_3 x20_2).f0) == (rd l1 x20_2)) = false := beq_eq_false_iff_ne.mpr c13
           have c13b1 : (((rd_T54 l0_3 x20_2).f0) != (rd l1 x20_2)) = true := bne_iff_ne.mpr c13
           obtain rfl := Option.some.inj H
           have p597 : 0 ≤ (x20_2 : Int) := of_decide_eq_true (by first | (with_reducible assumption) | assumption)
           have q597 : x20_2 < (l1.length : Int) := of_decide_eq_true (by first | (with_reducible assumption) | assumption)
           obtain ⟨ad597, e597, hx597_0⟩ := Kd.at_int HR1.out x20_2 p597 q597
           cases e597
           replace hx597_0 := (HB.out.cell (World.block_lt_of_cell? w _ hx597_0)).trans hx597_0
           replace p597 := eq_true p597
           replace q597 := eq_true q597
           have hcz15_0 : wr.cell? ⟨gb596, 0, none⟩ = some (.int .i64 a0_0) := (blk_cell BK596.out 0).trans rfl
           have hcz15_1 : wr.cell? ⟨gb596, 1, none⟩ = some (.int .i64 a0_1) := (blk_cell BK596.out 1).trans rfl
           have hcz15_2 : wr.cell? ⟨gb596, 2, none⟩ = some (.string a0_2) := (blk_cell BK596.out 2).trans rfl
           have hcz15_3 : wr.cell? ⟨gb596, 3, none⟩ = some (.slice A0_3 l0_3.length c0_3) := (blk_cell BK596.out 3).trans rfl
           have hfz15_0 := blk_frozen BK596.out 0
           have hfz15_1 := blk_frozen BK596.out 1
           have hfz15_2 := blk_frozen BK596.out 2
           have hfz15_3 := blk_frozen BK596.out 3
           have p598 : 0 ≤ (x20_2 : Int) := of_decide_eq_true (by first | (with_reducible assumption) | assumption)
           have q598 : x20_2 < (l0_3.length : Int) := of_decide_eq_true (by first | (with_reducible assumption) | assumption)
           obtain ⟨ad598, A598_3, c598_3, e598, hx598_0, hx598_1, hx598_2, hx598_3, hl598_3, hi598_3⟩ := at_T54 HR0_3.out x20_2 p598 q598
           cases e598
           replace hx598_0 := (HB.out.cell (World.block_lt_of_cell? w _ hx598_0)).trans hx598_0
           replace hx598_1 := (HB.out.cell (World.block_lt_of_cell? w _ hx598_1)).trans hx598_1
           replace hx598_2 := (HB.out.cell (World.block_lt_of_cell? w _ hx598_2)).trans hx598_2
           replace hx598_3 := (HB.out.cell (World.block_lt_of_cell? w _ hx598_3)).trans hx598_3
           have HR598_3 := Aside0.mk hi598_3
           have HC598_3 := Aside0.mk hl598_3
           clear hi598_3 hl598_3
           replace p598 := eq_true p598
           replace q598 := eq_true q598
           go_wp2
           go_ret
           exact ⟨by first | rfl | (simp [errW_none, errW_some] <;> rfl) | (simp [*, errW_none, errW_some] <;> rfl), bb⟩
         ·rw [if_neg c12] at H
          exact absurd H (by simp)
        ·rw [if_neg c11] at H
         exact absurd H (by simp)
       ·rw [if_neg c10] at H
        exact absurd H (by simp)
      ·rw [if_neg c9] at H
       have c9b0 : decide (x20_2 < (l1.length : Int)) = false := decide_eq_false c9
       clear c9
       obtain rfl := Option.some.inj H
       go_wp2
       go_ret
       exact ⟨by first | rfl | (simp [errW_none, errW_some] <;> rfl) | (simp [*, errW_none, errW_some] <;> rfl), bb⟩

/-! ### graph_small: function 93 -/
def graph_small.f (a0 : Int) : Option (Bool) := if a0 ≥ (-2147483648) then (some (decide (a0 ≤ 2147483647))) else (some false)
set_option maxHeartbeats 8000000 in
set_option maxRecDepth 100000 in
theorem graph_small.calls (a0 : Int) (r : Bool) (w : World) (h : graph_small.f a0 = some r) :
  Calls Try.prog 93 #[.int .i64 a0] w fun e w' => e = .returned (.bool r) ∧ Drawn0 w w' := by
 have H : (if a0 ≥ (-2147483648) then (some (decide (a0 ≤ 2147483647))) else (some false)) = some r := h
 clear h
 by_cases c2 : a0 ≥ (-2147483648)
 ·rw [if_pos c2] at H
  have c2b0 : decide ((-2147483648) ≤ a0) = true := decide_eq_true c2
  clear c2
  obtain rfl := Option.some.inj H
  go_enter Try.func93, Try.ntmps93
  go_wp2
  go_ret
  exact ⟨by first | rfl | (simp; done) | (simp [*]; done), by repeat (first | exact Drawn0.refl _ | apply Drawn0.step)⟩
 ·rw [if_neg c2] at H
  have c2b0 : decide ((-2147483648) ≤ a0) = false := decide_eq_false c2
  clear c2
  obtain rfl := Option.some.inj H
  go_enter Try.func93, Try.ntmps93
  go_wp2
  go_ret
  exact ⟨by first | rfl | (simp; done) | (simp [*]; done), by repeat (first | exact Drawn0.refl _ | apply Drawn0.step)⟩

end Go.Proofs.Ytjicfkmpgogppaa.PA
-- printed by a program of this session out of the translation; see NOTES.md
namespace Go.Proofs.Ytjicfkmpgogppaa.PA
open Go.RowKit Go.Proofs.YtjicfkmpgogppaaW.PrintWords Go.Proofs.YtjicfkmpgogppaaW.PrintLast Go.Proofs.YtjicfkmpgogppaaW.PrintMore
attribute [local go_sem] max2_int min2_int max_two min_two max_three min_three max_four min_four   -- for this text's walks alone
set_option linter.unusedVariables false
set_option linter.unusedSimpArgs false

/-! ### precinctref12_small: function 63 -/
def precinctref12_small.f (a0 : Int) : Option (Bool) := if a0 ≥ (-2147483648) then (some (decide (a0 ≤ 2147483647))) else (some false)
set_option maxHeartbeats 8000000 in
set_option maxRecDepth 100000 in
theorem precinctref12_small.calls (a0 : Int) (r : Bool) (w : World) (h : precinctref12_small.f a0 = some r) :
  Calls Try.prog 63 #[.int .i64 a0] w fun e w' => e = .returned (.bool r) ∧ Drawn0 w w' := by
 have H : (if a0 ≥ (-2147483648) then (some (decide (a0 ≤ 2147483647))) else (some false)) = some r := h
 clear h
 by_cases c2 : a0 ≥ (-2147483648)
 ·rw [if_pos c2] at H
  have c2b0 : decide ((-2147483648) ≤ a0) = true := decide_eq_true c2
  clear c2
  obtain rfl := Option.some.inj H
  go_enter Try.func63, Try.ntmps63
  go_wp2
  go_ret
  exact ⟨by first | rfl | (simp; done) | (simp [*]; done), by repeat (first | exact Drawn0.refl _ | apply Drawn0.step)⟩
 ·rw [if_neg c2] at H
  have c2b0 : decide ((-2147483648) ≤ a0) = false := decide_eq_false c2
  clear c2
  obtain rfl := Option.some.inj H
  go_enter Try.func63, Try.ntmps63
  go_wp2
  go_ret
  exact ⟨by first | rfl | (simp; done) | (simp [*]; done), by repeat (first | exact Drawn0.refl _ | apply Drawn0.step)⟩

end Go.Proofs.Ytjicfkmpgogppaa.PA
-- printed by a program of this session out of the translation; see NOTES.md
namespace Go.Proofs.Ytjicfkmpgogppaa.PA
open Go.RowKit Go.Proofs.YtjicfkmpgogppaaW.PrintWords Go.Proofs.YtjicfkmpgogppaaW.PrintLast Go.Proofs.YtjicfkmpgogppaaW.PrintMore Go.Proofs.YtjicfkmpgogppaaRb
attribute [local go_sem] max2_int min2_int max_two min_two max_three min_three max_four min_four   -- for this text's walks alone
set_option linter.unusedVariables false
set_option linter.unusedSimpArgs false

-- NOT PRINTED: function 13 (precinctlaw18_OpAsks)

/-! ### precinctref18_List: function 73 -/
def precinctref18_List.f (l0 : List (S57)) : Option (Int × Int × ByteArray × (List (S57))) := some (2, 0, (⟨#[]⟩ : ByteArray), l0)
set_option maxHeartbeats 8000000 in
set_option maxRecDepth 100000 in
theorem precinctref18_List.calls (P0_ : Nat → Prop) (A0 : Option Addr) (c0 : Nat) (l0 : List (S57)) (r1 : Int) (r2 : Int) (r3 : ByteArray) (r4 : List (S57)) (w : World) (hs0 : Kd.V k57 57 w w.heap.size (fun k_ => P0_ k_) (.slice A0 l0.length c0) l0) (h : precinctref18_List.f l0 = some (r1, r2, r3, r4)) :
  Calls Try.prog 73 #[.slice A0 l0.length c0] w fun e w' => ∃ v3_ : Value, e = .returned (.agg #[.int .i64 r1, .int .i64 r2, .string r3, v3_]) ∧ Kd.V k57 57 w' w.heap.size (fun k_ => (P0_ k_ ∨ w.heap.size ≤ k_)) v3_ r4 ∧ Below w.heap.size w w' := by
 have hu57 := Try.underlying57
 have HO0 := Aside0.mk (show Kd.V k57 57 w w.heap.size (fun k_ => (P0_ k_ ∨ w.heap.size ≤ k_)) (.slice A0 l0.length c0) l0 from Kd.V_mono hs0 (fun k_ hk => .inl hk))
 have HB := Aside0.mk (Below.refl w.heap.size w)
 have H : (some (2, 0, (⟨#[]⟩ : ByteArray), l0)) = some (r1, r2, r3, r4) := h
 clear h
 simp only [Option.some.injEq, Prod.mk.injEq] at H
 obtain ⟨rfl, rfl, rfl, rfl⟩ := H
 go_enter Try.func73, Try.ntmps73
 go_wp2_with (first | ((with_reducible refine gate_dst (N := 2) rfl ?_); refine box_event ?hg (N := 2) ?hd (cs := #[.int .i64 0, .int .i64 0, .string (⟨#[]⟩ : ByteArray), .slice none 0 0]) (t := 57) ?hr ?_; (case hd => rfl); (case hg => rfl); (case hr => first | (go_simp; done) | (go_simp; rfl)); intro gb722 hg w2 hbox hb; have n0_ := Aside0.mk (Kd.V_below (Kd.V_elderB (by (with_reducible repeat (first | apply Kd.V_alloc | apply Kd.V_drewN | apply Kd.V_drew)); exact HO0.out) gb722 (Nat.le_of_eq hg.symm)) hb); have n1_ := Aside0.mk (below_step bb hb); have n2_ := Aside0.mk (hbox); have n3_ := Aside0.mk ((by rw [hg]; exact (below_size bb) : w.heap.size ≤ gb722)); have n4_ := Aside0.mk ((by rw [hg]; exact (below_size bb) : w.heap.size ≤ gb722)); clear HO0; clear HB; have HO0 := n0_; have HB := n1_; have BK722 := n2_; have GW722 := n3_; have GE722 := n4_; clear n0_ n1_ n2_ n3_ n4_; clear hb hbox hg; have hcz3_0 : w2.cell? ⟨gb722, 0, none⟩ = some (.int .i64 0) := (blk_cell BK722.out 0).trans rfl; have hcz3_1 : w2.cell? ⟨gb722, 1, none⟩ = some (.int .i64 0) := (blk_cell BK722.out 1).trans rfl; have hcz3_2 : w2.cell? ⟨gb722, 2, none⟩ = some (.string (⟨#[]⟩ : ByteArray)) := (blk_cell BK722.out 2).trans rfl; have hcz3_3 : w2.cell? ⟨gb722, 3, none⟩ = some (.slice none 0 0) := (blk_cell BK722.out 3).trans rfl; have hfz3_0 := blk_frozen BK722.out 0; have hfz3_1 := blk_frozen BK722.out 1; have hfz3_2 := blk_frozen BK722.out 2; have hfz3_3 := blk_frozen BK722.out 3))
 refine bodyPost_ret (results_cell_row rfl _ _ gb722 57 #[.int .i64 2, .int .i64 0, .string (⟨#[]⟩ : ByteArray), .slice A0 l0.length c0] (0, 0) _ rfl (rb (blk_put (cs := #[.int .i64 2, .int .i64 0, .string (⟨#[]⟩ : ByteArray), .slice none 0 0]) (rb (blk_put (cs := #[.int .i64 2, .int .i64 0, .string (⟨#[]⟩ : ByteArray), .slice none 0 0]) (rb (blk_put (cs := #[.int .i64 2, .int .i64 0, .string (⟨#[]⟩ : ByteArray), .slice none 0 0]) (rb (blk_put (cs := #[.int .i64 0, .int .i64 0, .string (⟨#[]⟩ : ByteArray), .slice none 0 0]) (rb BK722.out) 0 _ rfl)) 1 _ rfl)) 2 _ rfl)) 3 _ rfl)) Try.underlying57 rfl (by kernel_rfl)) rfl ?_
 exact ⟨_, by first | rfl | (simp [errW_none, errW_some] <;> rfl) | (simp [*, errW_none, errW_some] <;> rfl), by (with_reducible repeat (first | apply Kd.V_alloc | apply Kd.V_drewN | apply Kd.V_drew)); exact Kd.V_mono (Kd.V_far (p := ⟨gb722, 3, none⟩) (Kd.V_far (p := ⟨gb722, 2, none⟩) (Kd.V_far (p := ⟨gb722, 1, none⟩) (Kd.V_far (p := ⟨gb722, 0, none⟩) (Kd.V_mono HO0.out (fun k_ hk => (⟨hk, hk.2⟩ : _ ∧ k_ ≠ gb722))) (fun _ hk => hk.2) (.int .i64 2)) (fun _ hk => hk.2) (.int .i64 0)) (fun _ hk => hk.2) (.string (⟨#[]⟩ : ByteArray))) (fun _ hk => hk.2) (.slice A0 l0.length c0)) (fun _ hk => hk.1.1), bb⟩

/-! ### precinctref01_Put: function 107 -/
def precinctref01_Put.l0 : Nat → Int → Int → ByteArray → Int → Option (ByteArray)
 | 0, _, _, _, _ => none
 | k + 1, x0, x1, x5, x6 => if x6 < x0 then (if x6 < 8 then ((some (([(Int.tmod x1 256) % 256] : List Int) : List Int)).bind fun y723 => (if (strOfNums y723).size + x5.size ≤ 9223372036854775807 then (precinctref01_Put.l0 k x0 (IntKind.u64.wrap (Int.tdiv x1 256)) ((strOfNums y723) ++ x5) (wrap64 (x6 + 1))) else (none))) else (some x5)) else (some x5)
def precinctref01_Put.f (k : Nat) (a0 : Int) (a1 : Int) : Option (ByteArray) := precinctref01_Put.l0 k a0 a1 (⟨#[]⟩ : ByteArray) 0
theorem precinctref01_Put.mono_l : ∀ k, (∀ y0 y1 y2 y3, LeO (precinctref01_Put.l0 k y0 y1 y2 y3) (precinctref01_Put.l0 (k + 1) y0 y1 y2 y3))
 | 0 => fun _ _ _ _ r h => by simp [precinctref01_Put.l0] at h
 | k + 1 => by
  have ih0 := precinctref01_Put.mono_l k
  ·intro y0 y1 y2 y3
   unfold precinctref01_Put.l0
   repeat' first
   | (with_reducible exact ih0 _ _ _ _)
   | (with_reducible exact LeO.refl _)
   | (with_reducible exact LeO.none _)
   | (with_reducible refine LeO.ite ?_ ?_)
   | (with_reducible refine LeO.bind ?_ (fun _ => ?_))
   | exact ih0 _ _ _ _
   | exact LeO.none _
   | refine LeO.ite ?_ ?_
   | refine LeO.bind ?_ (fun _ => ?_)
theorem precinctref01_Put.mono : ∀ a0 a1 k, LeO (precinctref01_Put.f k a0 a1) (precinctref01_Put.f (k + 1) a0 a1) := by
 intro a0 a1 k
 have ih0 := precinctref01_Put.mono_l k
 unfold precinctref01_Put.f
 repeat' first
   | (with_reducible exact ih0 _ _ _ _)
   | (with_reducible exact LeO.refl _)
   | (with_reducible exact LeO.none _)
   | (with_reducible refine LeO.ite ?_ ?_)
   | (with_reducible refine LeO.bind ?_ (fun _ => ?_))
   | exact ih0 _ _ _ _
   | exact LeO.none _
   | refine LeO.ite ?_ ?_
   | refine LeO.bind ?_ (fun _ => ?_)
set_option maxHeartbeats 8000000 in
set_option maxRecDepth 100000 in
theorem precinctref01_Put.calls (k : Nat) (a0 : Int) (a1 : Int) (r : ByteArray) (w : World) (h : precinctref01_Put.f k a0 a1 = some r) :
  Calls Try.prog 107 #[.int .i64 a0, .int .u64 a1] w fun e w' => e = .returned (.string r) ∧ Below w.heap.size w w' := by
 have HB := Aside0.mk (Below.refl w.heap.size w)
 have H : (precinctref01_Put.l0 k a0 a1 (⟨#[]⟩ : ByteArray) 0) = some r := h
 clear h
 have H' := Aside0.mk H
 clear H
 go_enter Try.func107, Try.ntmps107
 go_wp2
 go_loopg [1, 5, 6] k (fun kq v1 v5 v6 w' => ∃ (x1_1 : Int) (x5_1 : ByteArray) (x6_1 : Int), v1 = .int .u64 x1_1 ∧ v5 = .string x5_1 ∧ v6 = .int .i64 x6_1 ∧ Aside0 (precinctref01_Put.l0 kq a0 x1_1 x5_1 x6_1 = some r) ∧ Aside0 (kq ≤ k) ∧ Aside0 (Below w.heap.size w w'))
 case atStart => exact ⟨(a1), ((⟨#[]⟩ : ByteArray)), (0), (by first | rfl | (simp; done) | (simp [*]; done)), (by first | rfl | (simp; done) | (simp [*]; done)), (by first | rfl | (simp; done) | (simp [*]; done)), H', ⟨Nat.le_refl _⟩, ⟨bb⟩⟩
 case round =>
  clear H'
  try clear c1
  try clear p2
  obtain ⟨x1_1, x5_1, x6_1, rfl, rfl, rfl, HA, HK1, HB⟩ := hrel
  cases gk with
  | zero => exact absurd HA.out (by simp [precinctref01_Put.l0])
  | succ k1 =>
   have H := HA.out
   clear HA
   simp only [precinctref01_Put.l0] at H
   by_cases c3 : x6_1 < a0
   ·rw [if_pos c3] at H
    have c3b0 : decide (x6_1 < a0) = true := decide_eq_true c3
    clear c3
    by_cases c4 : x6_1 < 8
    ·rw [if_pos c4] at H
     have c4b0 : decide (x6_1 < 8) = true := decide_eq_true c4
     clear c4
     obtain ⟨y723, hy723⟩ : ∃ y_ : List Int, y_ = (([(Int.tmod x1_1 256) % 256] : List Int)) := ⟨_, rfl⟩
     replace H : (if (strOfNums y723).size + x5_1.size ≤ 9223372036854775807 then (precinctref01_Put.l0 k1 a0 (IntKind.u64.wrap (Int.tdiv x1_1 256)) ((strOfNums y723) ++ x5_1) (wrap64 (x6_1 + 1))) else (none)) = some r := by first | (rw [hy723]; with_reducible exact H) | (have H2_ := (Option.bind_some _ _).symm.trans H; rw [hy723]; with_reducible exact H2_) | (have H2_ := (Option.bind_some _ _).symm.trans H; with_reducible exact H2_) | with_reducible exact H | (rw [hy723]; exact H) | exact H
     have Ny723 := Aside0.mk hy723
     clear hy723
     by_cases c5 : (strOfNums y723).size + x5_1.size ≤ 9223372036854775807
     ·rw [if_pos c5] at H
      have c5b0 := eq_true c5
      have c5b1 : decide ((strOfNums y723).size + x5_1.size ≤ 9223372036854775807) = true := decide_eq_true c5
      try have c5b2 : (9223372036854775807 < (strOfNums y723).size + x5_1.size) = False := eq_false (Nat.not_lt.2 c5)
      have H' := Aside0.mk H
      clear H
      go_wp2_with (first | ((with_reducible refine gate_dst (N := 19) rfl ?_); refine Kd.R_lit (Kd.int .u8) _ 5 ?hg (N := 19) ?hd (xs := ([(Int.tmod x1_1 256) % 256] : List Int)) (inner := [.int .u8 ((Int.tmod x1_1 256) % 256)]) (ok := fun _ => True) (okp := fun _ => True) ?hr ?hp (fun _ hk => hk) trivial (Below.refl _ _) (Nat.le_refl _) (by simp) ?_; (case hd => rfl); (case hg => rfl); (case hr => first | (go_simp; done) | (go_simp; rfl)); (case hp => exact (Reps.one (show Kd.M (Kd.int .u8) _ _ _ ((Int.tmod x1_1 256) % 256) [.int .u8 ((Int.tmod x1_1 256) % 256)] from rfl) (Reps.none _ _))); intro v724 w6 ho7 hb hg_ hnew_; clear hg_ hnew_; (first | rw [← Ny723.out] at ho7 | (simp only [Int.reduceToNat] at ho7; rw [← Ny723.out] at ho7)); have n0_ := Aside0.mk (Kd.R_lower ho7 (below_size bb)); have n1_ := Aside0.mk (below_step bb hb); clear HB; have HO725 := n0_; have HB := n1_; clear n0_ n1_; clear hb ho7; have hcv8 := own_string (P := Try.prog) Try.underlying44 Try.underlying5 Try.underlying9 (Kd.own_of_R HO725.out)))
      go_roundg k1
      case measure => have := HK1.out; omega
      case rel => exact ⟨(IntKind.u64.wrap (Int.tdiv x1_1 256)), ((strOfNums y723) ++ x5_1), (wrap64 (x6_1 + 1)), (by first | rfl | (simp; done) | (simp [*]; done)), (by first | rfl | (simp; done) | (simp [*]; done)), (by first | rfl | (simp; done) | (simp [*]; done)), H', ⟨by have := HK1.out; omega⟩, ⟨bb⟩⟩
     ·rw [if_neg c5] at H
      exact absurd H (by simp)
    ·rw [if_neg c4] at H
     have c4b0 : decide (x6_1 < 8) = false := decide_eq_false c4
     clear c4
     obtain rfl := Option.some.inj H
     go_wp2
     go_ret
     exact ⟨by first | rfl | (simp [errW_none, errW_some] <;> rfl) | (simp [*, errW_none, errW_some] <;> rfl), bb⟩
   ·rw [if_neg c3] at H
    have c3b0 : decide (x6_1 < a0) = false := decide_eq_false c3
    clear c3
    obtain rfl := Option.some.inj H
    go_wp2
    go_ret
    exact ⟨by first | rfl | (simp [errW_none, errW_some] <;> rfl) | (simp [*, errW_none, errW_some] <;> rfl), bb⟩

/-! ### precinctref01_Fold: function 115 -/
def precinctref01_Fold.f (a0 : Int) : Option (Int) := if a0 ≥ 0 then (some (IntKind.u64.wrap (2 * (IntKind.u64.wrap (a0))))) else (some (IntKind.u64.wrap ((IntKind.u64.wrap (2 * (IntKind.u64.wrap (wrap64 (-(wrap64 (a0 + 1))))))) + 1)))
set_option maxHeartbeats 8000000 in
set_option maxRecDepth 100000 in
theorem precinctref01_Fold.calls (a0 : Int) (r : Int) (w : World) (h : precinctref01_Fold.f a0 = some r) :
  Calls Try.prog 115 #[.int .i64 a0] w fun e w' => e = .returned (.int .u64 r) ∧ Drawn0 w w' := by
 have H : (if a0 ≥ 0 then (some (IntKind.u64.wrap (2 * (IntKind.u64.wrap (a0))))) else (some (IntKind.u64.wrap ((IntKind.u64.wrap (2 * (IntKind.u64.wrap (wrap64 (-(wrap64 (a0 + 1))))))) + 1)))) = some r := h
 clear h
 by_cases c2 : a0 ≥ 0
 ·rw [if_pos c2] at H
  have c2b0 : decide (0 ≤ a0) = true := decide_eq_true c2
  clear c2
  obtain rfl := Option.some.inj H
  go_enter Try.func115, Try.ntmps115
  go_wp2
  go_ret
  exact ⟨by first | rfl | (simp; done) | (simp [*]; done), by repeat (first | exact Drawn0.refl _ | apply Drawn0.step)⟩
 ·rw [if_neg c2] at H
  have c2b0 : decide (0 ≤ a0) = false := decide_eq_false c2
  clear c2
  obtain rfl := Option.some.inj H
  go_enter Try.func115, Try.ntmps115
  go_wp2
  go_ret
  exact ⟨by first | rfl | (simp; done) | (simp [*]; done), by repeat (first | exact Drawn0.refl _ | apply Drawn0.step)⟩

end Go.Proofs.Ytjicfkmpgogppaa.PA
-- printed by a program of this session out of the translation; see NOTES.md
namespace Go.Proofs.Ytjicfkmpgogppaa.PA
open Go.RowKit Go.Proofs.YtjicfkmpgogppaaW.PrintWords Go.Proofs.YtjicfkmpgogppaaW.PrintLast Go.Proofs.YtjicfkmpgogppaaW.PrintMore Go.Proofs.YtjicfkmpgogppaaRb
attribute [local go_sem] max2_int min2_int max_two min_two max_three min_three max_four min_four   -- for this text's walks alone
set_option linter.unusedVariables false
set_option linter.unusedSimpArgs false

/-! ### precinctref02_number: function 105 -/
def precinctref02_number.l0 : Nat → ByteArray → Option (ByteArray)
 | 0, _ => none
 | k + 1, x4 => if (x4.size : Int) > 0 then (if 0 < (x4.size : Int) then (if (bt x4 0) = 0 then (if 1 ≤ (x4.size : Int) then (precinctref02_number.l0 k (x4.extract 1 x4.size)) else (none)) else ((some (([1, ((x4.size : Int)) % 256] : List Int) : List Int)).bind fun y728 => (if (strOfNums y728).size + x4.size ≤ 9223372036854775807 then (some ((strOfNums y728) ++ x4)) else (none)))) else (none)) else ((some (([1, ((x4.size : Int)) % 256] : List Int) : List Int)).bind fun y731 => (if (strOfNums y731).size + x4.size ≤ 9223372036854775807 then (some ((strOfNums y731) ++ x4)) else (none)))
def precinctref02_number.f (k : Nat) (a0 : Int) : Option (ByteArray) := (precinctref01_Fold.f a0).bind fun t726 => ((precinctref01_Put.f k 8 t726).bind fun t727 => (precinctref02_number.l0 k t727))
theorem precinctref02_number.mono_l : ∀ k, (∀ y0, LeO (precinctref02_number.l0 k y0) (precinctref02_number.l0 (k + 1) y0))
 | 0 => fun _ r h => by simp [precinctref02_number.l0] at h
 | k + 1 => by
  have ih0 := precinctref02_number.mono_l k
  ·intro y0
   unfold precinctref02_number.l0
   repeat' first
   | (with_reducible exact ih0 _)
   | (with_reducible exact precinctref01_Put.mono _ _ _)
   | (with_reducible exact LeO.refl _)
   | (with_reducible exact LeO.none _)
   | (with_reducible refine LeO.ite ?_ ?_)
   | (with_reducible refine LeO.bind ?_ (fun _ => ?_))
   | exact ih0 _
   | exact precinctref01_Put.mono _ _ _
   | exact LeO.none _
   | refine LeO.ite ?_ ?_
   | refine LeO.bind ?_ (fun _ => ?_)
theorem precinctref02_number.mono : ∀ a0 k, LeO (precinctref02_number.f k a0) (precinctref02_number.f (k + 1) a0) := by
 intro a0 k
 have ih0 := precinctref02_number.mono_l k
 unfold precinctref02_number.f
 repeat' first
   | (with_reducible exact ih0 _)
   | (with_reducible exact precinctref01_Put.mono _ _ _)
   | (with_reducible exact LeO.refl _)
   | (with_reducible exact LeO.none _)
   | (with_reducible refine LeO.ite ?_ ?_)
   | (with_reducible refine LeO.bind ?_ (fun _ => ?_))
   | exact ih0 _
   | exact precinctref01_Put.mono _ _ _
   | exact LeO.none _
   | refine LeO.ite ?_ ?_
   | refine LeO.bind ?_ (fun _ => ?_)
set_option maxHeartbeats 8000000 in
set_option maxRecDepth 100000 in
theorem precinctref02_number.calls (k : Nat) (a0 : Int) (r : ByteArray) (w : World) (h : precinctref02_number.f k a0 = some r) :
  Calls Try.prog 105 #[.int .i64 a0] w fun e w' => e = .returned (.string r) ∧ Below w.heap.size w w' := by
 have HB := Aside0.mk (Below.refl w.heap.size w)
 have H : ((precinctref01_Fold.f a0).bind fun t726 => ((precinctref01_Put.f k 8 t726).bind fun t727 => (precinctref02_number.l0 k t727))) = some r := h
 clear h
 replace H := Option.bind_eq_some_iff.mp H
 obtain ⟨t726, A20, H⟩ := H
 replace H : ((precinctref01_Put.f k 8 t726).bind fun t727 => (precinctref02_number.l0 k t727)) = some r := H
 have A2 := Aside0.mk A20
 clear A20
 replace H := Option.bind_eq_some_iff.mp H
 obtain ⟨t727, A30, H⟩ := H
 replace H : (precinctref02_number.l0 k t727) = some r := H
 have A3 := Aside0.mk A30
 clear A30
 have H' := Aside0.mk H
 clear H
 go_enter Try.func105, Try.ntmps105
 go_wp2_with (first | ((with_reducible refine gate_callee (f := 115) rfl ?_); refine goesL_ (some 6) rfl rfl Try.func115 (by kernel_rfl) rfl #[.int .i64 a0] rfl ag ?_; (with_reducible refine (precinctref01_Fold.calls a0 t726 _ A2.out).mono ?_); rintro e w' ⟨rfl, ⟨nd, rfl⟩⟩; refine ⟨_, rfl, ?_⟩) | ((with_reducible refine gate_callee (f := 107) rfl ?_); refine goesL_ (some 8) rfl rfl Try.func107 (by kernel_rfl) rfl #[.int .i64 8, .int .u64 t726] rfl ag ?_; (with_reducible refine (precinctref01_Put.calls k 8 t726 t727 _ A3.out).mono ?_); rintro e w4 ⟨rfl, hb⟩; refine ⟨_, rfl, ?_⟩; have n0_ := Aside0.mk (below_step bb hb); clear HB; have HB := n0_; clear n0_; (try clear hb); (try clear hb2); (try clear hk); (try clear hi)))
 go_loopg [4] k (fun kq v4 w' => ∃ (x4_1 : ByteArray), v4 = .string x4_1 ∧ Aside0 (precinctref02_number.l0 kq x4_1 = some r) ∧ Aside0 (kq ≤ k) ∧ Aside0 (Below w.heap.size w w'))
 case atStart => exact ⟨(t727), (by first | rfl | (simp; done) | (simp [*]; done)), H', ⟨Nat.le_refl _⟩, ⟨bb⟩⟩
 case round =>
  clear H'
  try clear c1
  try clear p2
  obtain ⟨x4_1, rfl, HA, HK1, HB⟩ := hrel
  cases gk with
  | zero => exact absurd HA.out (by simp [precinctref02_number.l0])
  | succ k1 =>
   have H := HA.out
   clear HA
   simp only [precinctref02_number.l0] at H
   by_cases c5 : (x4_1.size : Int) > 0
   ·rw [if_pos c5] at H
    have c5b0 : decide (0 < (x4_1.size : Int)) = true := decide_eq_true c5
    have c5b1 : decide (0 < x4_1.size) = true := decide_eq_true (by omega)
    clear c5
    by_cases c6 : 0 < (x4_1.size : Int)
    ·rw [if_pos c6] at H
     have c6b0 : decide (0 < (x4_1.size : Int)) = true := decide_eq_true c6
     have c6b1 : decide (0 < x4_1.size) = true := decide_eq_true (by omega)
     clear c6
     by_cases c8 : (bt x4_1 0) = 0
     ·rw [if_pos c8] at H
      have c8b0 : ((bt x4_1 0) == 0) = true := beq_iff_eq.mpr c8
      have c8b1 : ((bt x4_1 0) != 0) = false := bne_eq_false_iff_eq.mpr c8
      clear c8
      by_cases c9 : 1 ≤ (x4_1.size : Int)
      ·rw [if_pos c9] at H
       have c9b0 := eq_true c9
       have c9b1 : decide (1 ≤ (x4_1.size : Int)) = true := decide_eq_true c9
       clear c9
       have H' := Aside0.mk H
       clear H
       have p7 : 0 ≤ (0 : Int) := (by omega)
       have q7 : 0 < x4_1.size := (by have : (0 : Int) < (x4_1.size : Int) := of_decide_eq_true (by first | (with_reducible assumption) | assumption); omega)
       have hx7 : ∀ h : 0 < x4_1.size, ((x4_1[0]'h).toNat : Int) = bt x4_1 0 := bt_at x4_1 0
       clear p7
       have qi7 : (0 < (x4_1.size : Int)) = True := eq_true (of_decide_eq_true (by first | (with_reducible assumption) | assumption))
       replace q7 := eq_true q7
       go_wp2
       go_roundg k1
       case measure => have := HK1.out; omega
       case rel => exact ⟨(x4_1.extract 1 x4_1.size), (by first | rfl | (simp; done) | (simp [*]; done)), H', ⟨by have := HK1.out; omega⟩, ⟨bb⟩⟩
      ·rw [if_neg c9] at H
       exact absurd H (by simp)
     ·rw [if_neg c8] at H
      have c8b0 : ((bt x4_1 0) == 0) = false := beq_eq_false_iff_ne.mpr c8
      have c8b1 : ((bt x4_1 0) != 0) = true := bne_iff_ne.mpr c8
      obtain ⟨y728, hy728⟩ : ∃ y_ : List Int, y_ = (([1, ((x4_1.size : Int)) % 256] : List Int)) := ⟨_, rfl⟩
      replace H : (if (strOfNums y728).size + x4_1.size ≤ 9223372036854775807 then (some ((strOfNums y728) ++ x4_1)) else (none)) = some r := by first | (rw [hy728]; with_reducible exact H) | (have H2_ := (Option.bind_some _ _).symm.trans H; rw [hy728]; with_reducible exact H2_) | (have H2_ := (Option.bind_some _ _).symm.trans H; with_reducible exact H2_) | with_reducible exact H | (rw [hy728]; exact H) | exact H
      have Ny728 := Aside0.mk hy728
      clear hy728
      by_cases c10 : (strOfNums y728).size + x4_1.size ≤ 9223372036854775807
      ·rw [if_pos c10] at H
       have c10b0 := eq_true c10
       have c10b1 : decide ((strOfNums y728).size + x4_1.size ≤ 9223372036854775807) = true := decide_eq_true c10
       try have c10b2 : (9223372036854775807 < (strOfNums y728).size + x4_1.size) = False := eq_false (Nat.not_lt.2 c10)
       obtain rfl := Option.some.inj H
       have p7 : 0 ≤ (0 : Int) := (by omega)
       have q7 : 0 < x4_1.size := (by have : (0 : Int) < (x4_1.size : Int) := of_decide_eq_true (by first | (with_reducible assumption) | assumption); omega)
       have hx7 : ∀ h : 0 < x4_1.size, ((x4_1[0]'h).toNat : Int) = bt x4_1 0 := bt_at x4_1 0
       clear p7
       have qi7 : (0 < (x4_1.size : Int)) = True := eq_true (of_decide_eq_true (by first | (with_reducible assumption) | assumption))
       replace q7 := eq_true q7
       go_wp2_with (first | ((with_reducible refine gate_dst (N := 22) rfl ?_); refine Kd.R_lit (Kd.int .u8) _ 5 ?hg (N := 22) ?hd (xs := ([1, ((x4_1.size : Int)) % 256] : List Int)) (inner := [.int .u8 1, .int .u8 (((x4_1.size : Int)) % 256)]) (ok := fun _ => True) (okp := fun _ => True) ?hr ?hp (fun _ hk => hk) trivial (Below.refl _ _) (Nat.le_refl _) (by simp) ?_; (case hd => rfl); (case hg => rfl); (case hr => first | (go_simp; done) | (go_simp; rfl)); (case hp => exact (Reps.one (show Kd.M (Kd.int .u8) _ _ _ 1 [.int .u8 1] from rfl) (Reps.one (show Kd.M (Kd.int .u8) _ _ _ (((x4_1.size : Int)) % 256) [.int .u8 (((x4_1.size : Int)) % 256)] from rfl) (Reps.none _ _)))); intro v729 w11 ho12 hb hg_ hnew_; clear hg_ hnew_; (first | rw [← Ny728.out] at ho12 | (simp only [Int.reduceToNat] at ho12; rw [← Ny728.out] at ho12)); have n0_ := Aside0.mk (Kd.R_lower ho12 (below_size bb)); have n1_ := Aside0.mk (below_step bb hb); clear HB; have HO730 := n0_; have HB := n1_; clear n0_ n1_; clear hb ho12; have hcv13 := own_string (P := Try.prog) Try.underlying44 Try.underlying5 Try.underlying9 (Kd.own_of_R HO730.out)))
       go_ret
       exact ⟨by first | rfl | (simp [errW_none, errW_some] <;> rfl) | (simp [*, errW_none, errW_some] <;> rfl), bb⟩
      ·rw [if_neg c10] at H
       exact absurd H (by simp)
    ·rw [if_neg c6] at H
     exact absurd H (by simp)
   ·rw [if_neg c5] at H
    have c5b0 : decide (0 < (x4_1.size : Int)) = false := decide_eq_false c5
    have c5b1 : decide (0 < x4_1.size) = false := decide_eq_false (by omega)
    clear c5
    obtain ⟨y731, hy731⟩ : ∃ y_ : List Int, y_ = (([1, ((x4_1.size : Int)) % 256] : List Int)) := ⟨_, rfl⟩
    replace H : (if (strOfNums y731).size + x4_1.size ≤ 9223372036854775807 then (some ((strOfNums y731) ++ x4_1)) else (none)) = some r := by first | (rw [hy731]; with_reducible exact H) | (have H2_ := (Option.bind_some _ _).symm.trans H; rw [hy731]; with_reducible exact H2_) | (have H2_ := (Option.bind_some _ _).symm.trans H; with_reducible exact H2_) | with_reducible exact H | (rw [hy731]; exact H) | exact H
    have Ny731 := Aside0.mk hy731
    clear hy731
    by_cases c14 : (strOfNums y731).size + x4_1.size ≤ 9223372036854775807
    ·rw [if_pos c14] at H
     have c14b0 := eq_true c14
     have c14b1 : decide ((strOfNums y731).size + x4_1.size ≤ 9223372036854775807) = true := decide_eq_true c14
     try have c14b2 : (9223372036854775807 < (strOfNums y731).size + x4_1.size) = False := eq_false (Nat.not_lt.2 c14)
     obtain rfl := Option.some.inj H
     go_wp2_with (first | ((with_reducible refine gate_dst (N := 22) rfl ?_); refine Kd.R_lit (Kd.int .u8) _ 5 ?hg (N := 22) ?hd (xs := ([1, ((x4_1.size : Int)) % 256] : List Int)) (inner := [.int .u8 1, .int .u8 (((x4_1.size : Int)) % 256)]) (ok := fun _ => True) (okp := fun _ => True) ?hr ?hp (fun _ hk => hk) trivial (Below.refl _ _) (Nat.le_refl _) (by simp) ?_; (case hd => rfl); (case hg => rfl); (case hr => first | (go_simp; done) | (go_simp; rfl)); (case hp => exact (Reps.one (show Kd.M (Kd.int .u8) _ _ _ 1 [.int .u8 1] from rfl) (Reps.one (show Kd.M (Kd.int .u8) _ _ _ (((x4_1.size : Int)) % 256) [.int .u8 (((x4_1.size : Int)) % 256)] from rfl) (Reps.none _ _)))); intro v732 w15 ho16 hb hg_ hnew_; clear hg_ hnew_; (first | rw [← Ny731.out] at ho16 | (simp only [Int.reduceToNat] at ho16; rw [← Ny731.out] at ho16)); have n0_ := Aside0.mk (Kd.R_lower ho16 (below_size bb)); have n1_ := Aside0.mk (below_step bb hb); clear HB; have HO733 := n0_; have HB := n1_; clear n0_ n1_; clear hb ho16; have hcv17 := own_string (P := Try.prog) Try.underlying44 Try.underlying5 Try.underlying9 (Kd.own_of_R HO733.out)))
     go_ret
     exact ⟨by first | rfl | (simp [errW_none, errW_some] <;> rfl) | (simp [*, errW_none, errW_some] <;> rfl), bb⟩
    ·rw [if_neg c14] at H
     exact absurd H (by simp)

/-! ### precinctref01_Text: function 106 -/
def precinctref01_Text.f (k : Nat) (a0 : ByteArray) : Option (ByteArray × Int) := if (a0.size : Int) > 65535 then (some ((⟨#[]⟩ : ByteArray), 5)) else ((precinctref01_Put.f k 2 (IntKind.u64.wrap ((a0.size : Int)))).bind fun t734 => (if t734.size + a0.size ≤ 9223372036854775807 then (some (t734 ++ a0, 0)) else (none)))
theorem precinctref01_Text.mono : ∀ a0 k, LeO (precinctref01_Text.f k a0) (precinctref01_Text.f (k + 1) a0) := by
 intro a0 k
 unfold precinctref01_Text.f
 repeat' first
   | (with_reducible exact precinctref01_Put.mono _ _ _)
   | (with_reducible exact LeO.refl _)
   | (with_reducible exact LeO.none _)
   | (with_reducible refine LeO.ite ?_ ?_)
   | (with_reducible refine LeO.bind ?_ (fun _ => ?_))
   | exact precinctref01_Put.mono _ _ _
   | exact LeO.none _
   | refine LeO.ite ?_ ?_
   | refine LeO.bind ?_ (fun _ => ?_)
set_option maxHeartbeats 8000000 in
set_option maxRecDepth 100000 in
theorem precinctref01_Text.calls (k : Nat) (a0 : ByteArray) (r1 : ByteArray) (r2 : Int) (w : World) (h : precinctref01_Text.f k a0 = some (r1, r2)) :
  Calls Try.prog 106 #[.string a0] w fun e w' => e = .returned (.tuple #[.string r1, .int .i64 r2]) ∧ Below w.heap.size w w' := by
 have HB := Aside0.mk (Below.refl w.heap.size w)
 have H : (if (a0.size : Int) > 65535 then (some ((⟨#[]⟩ : ByteArray), 5)) else ((precinctref01_Put.f k 2 (IntKind.u64.wrap ((a0.size : Int)))).bind fun t734 => (if t734.size + a0.size ≤ 9223372036854775807 then (some (t734 ++ a0, 0)) else (none)))) = some (r1, r2) := h
 clear h
 by_cases c2 : (a0.size : Int) > 65535
 ·rw [if_pos c2] at H
  have c2b0 : decide (65535 < (a0.size : Int)) = true := decide_eq_true c2
  have c2b1 : decide (65535 < a0.size) = true := decide_eq_true (by omega)
  clear c2
  simp only [Option.some.injEq, Prod.mk.injEq] at H
  obtain ⟨rfl, rfl⟩ := H
  go_enter Try.func106, Try.ntmps106
  go_wp2
  go_ret2
  exact ⟨by first | rfl | (simp [errW_none, errW_some] <;> rfl) | (simp [*, errW_none, errW_some] <;> rfl), bb⟩
 ·rw [if_neg c2] at H
  have c2b0 : decide (65535 < (a0.size : Int)) = false := decide_eq_false c2
  have c2b1 : decide (65535 < a0.size) = false := decide_eq_false (by omega)
  clear c2
  replace H := Option.bind_eq_some_iff.mp H
  obtain ⟨t734, A30, H⟩ := H
  replace H : (if t734.size + a0.size ≤ 9223372036854775807 then (some (t734 ++ a0, 0)) else (none)) = some (r1, r2) := H
  have A3 := Aside0.mk A30
  clear A30
  have hw_ : IntKind.u64.wrap ((a0.size : Int)) = (a0.size : Int) := by have hg_ := of_decide_eq_false c2b0; simp [IntKind.wrap, IntKind.bits, IntKind.signed]; omega
  rw [hw_] at A3
  clear hw_
  by_cases c4 : t734.size + a0.size ≤ 9223372036854775807
  ·rw [if_pos c4] at H
   have c4b0 := eq_true c4
   have c4b1 : decide (t734.size + a0.size ≤ 9223372036854775807) = true := decide_eq_true c4
   try have c4b2 : (9223372036854775807 < t734.size + a0.size) = False := eq_false (Nat.not_lt.2 c4)
   simp only [Option.some.injEq, Prod.mk.injEq] at H
   obtain ⟨rfl, rfl⟩ := H
   go_enter Try.func106, Try.ntmps106
   go_wp2_with (first | ((with_reducible refine gate_callee (f := 107) rfl ?_); refine goesL_ (some 11) rfl rfl Try.func107 (by kernel_rfl) rfl #[.int .i64 2, .int .u64 ((a0.size : Int))] rfl ag ?_; (with_reducible refine (precinctref01_Put.calls k 2 ((a0.size : Int)) t734 _ A3.out).mono ?_); rintro e w5 ⟨rfl, hb⟩; refine ⟨_, rfl, ?_⟩; have n0_ := Aside0.mk (below_step bb hb); clear HB; have HB := n0_; clear n0_; (try clear hb); (try clear hb2); (try clear hk); (try clear hi)))
   go_ret2
   exact ⟨by first | rfl | (simp [errW_none, errW_some] <;> rfl) | (simp [*, errW_none, errW_some] <;> rfl), bb⟩
  ·rw [if_neg c4] at H
   exact absurd H (by simp)

end Go.Proofs.Ytjicfkmpgogppaa.PA
namespace Go.Proofs.Ytjicfkmpgogppaa.Plain
set_option linter.unusedVariables false
set_option linter.unusedSimpArgs false
open Go Go.RowKit Go.Proofs.YtjicfkmpgogppaaW.PrintWords Go.Proofs.YtjicfkmpgogppaaW.PrintLast Go.Proofs.YtjicfkmpgogppaaW.PrintMore


theorem wu64 (n : Int) : IntKind.u64.wrap n = n % 18446744073709551616 := by simp [IntKind.wrap, IntKind.bits, IntKind.signed]
theorem wi64 (n : Int) : IntKind.i64.wrap n = wrap64 n := by unfold wrap64; exact IntKind.wrap_i64 n
theorem bv64 (x : Int) (h0 : 0 ≤ x) (h1 : x < 18446744073709551616) : (BitVec.ofInt 64 x).toNat = x.toNat := by
  rw [BitVec.toNat_ofInt]; omega
theorem xor_u64 (x y : Int) (h0 : 0 ≤ x) (h1 : x < 18446744073709551616) (k0 : 0 ≤ y) (k1 : y < 18446744073709551616) : bits .xor .u64 x y = ((x.toNat ^^^ y.toNat : Nat) : Int) := by
  show IntKind.u64.wrap ((BitVec.ofInt 64 x ^^^ BitVec.ofInt 64 y).toNat : Int) = _
  rw [BitVec.toNat_xor, bv64 x h0 h1, bv64 y k0 k1]
  have := Nat.xor_lt_two_pow (x := x.toNat) (y := y.toNat) (n := 64) (by omega) (by omega)
  rw [wu64]; omega
theorem or_u64 (x y : Int) (h0 : 0 ≤ x) (h1 : x < 18446744073709551616) (k0 : 0 ≤ y) (k1 : y < 18446744073709551616) : bits .or .u64 x y = ((x.toNat ||| y.toNat : Nat) : Int) := by
  show IntKind.u64.wrap ((BitVec.ofInt 64 x ||| BitVec.ofInt 64 y).toNat : Int) = _
  rw [BitVec.toNat_or, bv64 x h0 h1, bv64 y k0 k1]
  have := Nat.or_lt_two_pow (x := x.toNat) (y := y.toNat) (n := 64) (by omega) (by omega)
  rw [wu64]; omega
theorem and_u64 (x y : Int) (h0 : 0 ≤ x) (h1 : x < 18446744073709551616) (k0 : 0 ≤ y) (k1 : y < 18446744073709551616) : bits .and .u64 x y = ((x.toNat &&& y.toNat : Nat) : Int) := by
  show IntKind.u64.wrap ((BitVec.ofInt 64 x &&& BitVec.ofInt 64 y).toNat : Int) = _
  rw [BitVec.toNat_and, bv64 x h0 h1, bv64 y k0 k1]
  have := Nat.and_lt_two_pow (y := y.toNat) x.toNat (n := 64) (by omega)
  rw [wu64]; omega
theorem nat_xor_ones (n k : Nat) (h : n < 2 ^ k) : n ^^^ (2 ^ k - 1) = 2 ^ k - 1 - n := by
  have e : (BitVec.ofNat k n ^^^ BitVec.allOnes k).toNat = 2 ^ k - 1 - n := by
    rw [BitVec.xor_allOnes, BitVec.toNat_not, BitVec.toNat_ofNat, Nat.mod_eq_of_lt h]
  rw [BitVec.toNat_xor, BitVec.toNat_ofNat, Nat.mod_eq_of_lt h, BitVec.toNat_allOnes] at e
  exact e
theorem xor64_zero (x : Int) (h0 : 0 ≤ x) (h1 : x < 18446744073709551616) : bits .xor .u64 x 0 = x := by
  rw [xor_u64 x 0 h0 h1 (by omega) (by omega)]; simp; omega
theorem xor64_ones (x : Int) (h0 : 0 ≤ x) (h1 : x < 18446744073709551616) : bits .xor .u64 x 18446744073709551615 = 18446744073709551615 - x := by
  rw [xor_u64 x _ h0 h1 (by omega) (by omega)]
  have := nat_xor_ones x.toNat 64 (by omega)
  have e : (18446744073709551615 : Int).toNat = 2 ^ 64 - 1 := rfl
  rw [e, this]; omega
theorem xori_zero (x : Int) (h0 : 0 ≤ x) (h1 : x < 9223372036854775808) : bits .xor .i64 x 0 = x := by
  show IntKind.i64.wrap ((BitVec.ofInt 64 x ^^^ BitVec.ofInt 64 0).toNat : Int) = _
  rw [BitVec.toNat_xor, bv64 x h0 (by omega), bv64 0 (by omega) (by omega), wi64]
  simp [wrap64]; omega
theorem xori_neg (x : Int) (h0 : 0 ≤ x) (h1 : x < 9223372036854775808) : bits .xor .i64 x (-1) = -x - 1 := by
  show IntKind.i64.wrap ((BitVec.ofInt 64 x ^^^ BitVec.ofInt 64 (-1)).toNat : Int) = _
  have e : (BitVec.ofInt 64 (-1)).toNat = 2 ^ 64 - 1 := by decide
  rw [BitVec.toNat_xor, bv64 x h0 (by omega), e, nat_xor_ones x.toNat 64 (by omega), wi64]
  unfold wrap64; omega
theorem and_one (x : Int) (h0 : 0 ≤ x) (h1 : x < 18446744073709551616) : bits .and .u64 x 1 = x % 2 := by
  rw [and_u64 x 1 h0 h1 (by omega) (by omega)]
  have e : (1 : Int).toNat = 1 := rfl
  rw [e, Nat.and_one_is_mod]; omega

theorem w64 {n : Int} (h : -9223372036854775808 ≤ n) (h' : n ≤ 9223372036854775807) : wrap64 n = n := by unfold wrap64; omega
/-! #### bytes of numbers -/
/-- the lowest w bytes of n, the highest first -/
def puts : Nat → Int → List Int
  | 0, _ => []
  | w + 1, n => puts w (n / 256) ++ [n % 256]
theorem puts_length (w : Nat) : ∀ n, (puts w n).length = w := by
  induction w with
  | zero => intro n; rfl
  | succ w ih => intro n; simp [puts, ih]
theorem pow8 (d : Nat) : (2 : Int) ^ (8 * (d : Int)).toNat = 256 ^ d := by
  rw [show (8 * (d : Int)).toNat = 8 * d by omega, Int.pow_mul]; rfl
theorem pow256 (i : Nat) (h : i ≤ 7) : (256 : Int) ^ i ≤ 256 ^ 7 := by
  have : i = 0 ∨ i = 1 ∨ i = 2 ∨ i = 3 ∨ i = 4 ∨ i = 5 ∨ i = 6 ∨ i = 7 := by omega
  rcases this with rfl | rfl | rfl | rfl | rfl | rfl | rfl | rfl <;> decide
theorem puts_front (w : Nat) : ∀ n : Int, puts (w + 1) n = (n / 256 ^ w % 256) :: puts w n := by
  induction w with
  | zero => intro n; simp [puts]
  | succ w ih =>
    intro n
    have e : puts (w + 1 + 1) n = puts (w + 1) (n / 256) ++ [n % 256] := rfl
    rw [e, ih, Int.ediv_ediv_of_nonneg (by decide), ← Int.pow_succ']
    rfl
theorem size_strOfNums (xs : List Int) : (strOfNums xs).size = xs.length := by
  show (Array.size _) = _
  simp
/-- what Put answers -/
def put (w n : Int) : ByteArray := strOfNums (puts (max 0 (min w 8)).toNat n)
theorem size_put (w n : Int) : (put w n).size = (max 0 (min w 8)).toNat := by unfold put; rw [size_strOfNums, puts_length]

/-- the number that stands in i bytes at a -/
def gets (s : ByteArray) (a : Int) : Nat → Int
  | 0 => 0
  | i + 1 => gets s a i * 256 + bt s (a + i)
theorem gets_lt (s : ByteArray) (a : Int) (i : Nat) : 0 ≤ gets s a i ∧ gets s a i < 256 ^ i := by
  induction i with
  | zero => simp [gets]
  | succ i ih =>
    have hb := bt_range s (a + i)
    simp only [gets, Int.pow_succ]
    omega
/-- what Get answers -/
def getR (s : ByteArray) (a w : Int) : Int × Int × Int :=
  if w < 1 ∨ w > 8 ∨ a < 0 ∨ a > s.size then (0, 0, 2) else if (s.size : Int) - a < w then (0, 0, 3) else (gets s a w.toNat, a + w, 0)

/-! #### numbers narrowed -/
/-! #### words turned -/
end Go.Proofs.Ytjicfkmpgogppaa.Plain
namespace Go.Proofs.Ytjicfkmpgogppaa.Sh
set_option linter.unusedVariables false
set_option linter.unusedSimpArgs false
open Go Go.RowKit Go.Proofs.YtjicfkmpgogppaaW.PrintWords Go.Proofs.YtjicfkmpgogppaaW.PrintLast Go.Proofs.YtjicfkmpgogppaaW.PrintMore
def Bl (a b : World) : Prop := Below a.heap.size a b
theorem Bl.refl (a : World) : Bl a a := Below.refl _ _
theorem Bl.trans {a b c : World} (h : Bl a b) (k : Bl b c) : Bl a c := below_then h h.size k
theorem Bl.alloc {a b : World} (h : Bl a b) (o : Obj) : Bl a (b.alloc o) := below_alloc h o
theorem new_size (w : World) (o : Obj) : (w.alloc o).heap.size = w.heap.size + 1 := Array.size_push _
/-- a block: its number, its cells, its type -/
abbrev Blk := Nat × Array Value × TypeId
/-- from w0 on the walk has come to w; these blocks of its own hold these cells -/
structure St (w0 w : World) (L : List Blk) : Prop where
  hb : Below w0.heap.size w0 w
  bl : ∀ x ∈ L, w.heap[x.1]? = some (.cells x.2.1 x.2.2 (0, 0)) ∧ w0.heap.size ≤ x.1
  so : L.Pairwise (fun x y => y.1 < x.1)
section
variable {w0 w w1 : World} {L L' : List Blk} {g g' : Nat} {cs cs' : Array Value} {t t' : TypeId}
theorem St.start (w : World) : St w w [] := ⟨Below.refl _ _, fun _ h => absurd h List.not_mem_nil, List.Pairwise.nil⟩
theorem St.mem (h : St w0 w L) (n : Nat) (e : L[n]? = some (g, cs, t)) : w.heap[g]? = some (.cells cs t (0, 0)) := (h.bl _ (List.mem_of_getElem? e)).1
theorem St.ge (h : St w0 w L) (n : Nat) (e : L[n]? = some (g, cs, t)) : w0.heap.size ≤ g := (h.bl _ (List.mem_of_getElem? e)).2
theorem St.lt (h : St w0 w L) (n : Nat) (e : L[n]? = some (g, cs, t)) : g < w.heap.size := blk_lt (h.mem n e)
theorem St.c (h : St w0 w L) (n : Nat) (e : L[n]? = some (g, cs, t)) (i : Nat) : w.cell? ⟨g, i, none⟩ = cs[i]? := blk_cell (h.mem n e) i
theorem St.q (h : St w0 w L) (n : Nat) (e : L[n]? = some (g, cs, t)) (i : Nat) : w.frozen? ⟨g, i, none⟩ = false := blk_frozen (h.mem n e) i
theorem St.gt (h : St w0 w L) (n m : Nat) (hnm : n < m) (e : L[n]? = some (g, cs, t)) (e' : L[m]? = some (g', cs', t')) : g' < g := by
  obtain ⟨h1, e1⟩ := List.getElem?_eq_some_iff.1 e
  obtain ⟨h2, e2⟩ := List.getElem?_eq_some_iff.1 e'
  have := List.pairwise_iff_getElem.1 h.so n m h1 h2 hnm
  rw [e1, e2] at this
  exact this
theorem St.alloc (h : St w0 w L) (cs : Array Value) (t : TypeId) : St w0 (w.alloc (.cells cs t)) ((w.heap.size, cs, t) :: L) := by
  refine ⟨below_alloc h.hb _, fun x hx => ?_, List.pairwise_cons.2 ⟨fun y hy => blk_lt (h.bl y hy).1, h.so⟩⟩
  rcases List.mem_cons.1 hx with rfl | hx
  · exact ⟨blk_new _ _, h.hb.size⟩
  · exact ⟨blk_alloc (h.bl x hx).1 _, (h.bl x hx).2⟩
theorem St.allocN (h : St w0 w L) (cs : Array Value) (t : TypeId) (g : Nat) (hg : w.heap.size = g) : St w0 (w.alloc (.cells cs t)) ((g, cs, t) :: L) := hg ▸ h.alloc cs t
theorem St.go (h : St w0 w L) (hq : Bl w w1) : St w0 w1 L := ⟨below_then h.hb h.hb.size hq, fun x hx => ⟨blk_below (h.bl x hx).1 hq, (h.bl x hx).2⟩, h.so⟩
theorem St.drew (h : St w0 w L) : St w0 w.drew L := ⟨below_drew h.hb, h.bl, h.so⟩
theorem St.grown (h : St w0 w L) (hb : Below w0.heap.size w0 w1) {row : Option Nat} (hg : w.grownBy w1 row) (hn : ∀ x ∈ L, some x.1 ≠ row) : St w0 w1 L := ⟨hb, fun x m => ⟨blk_grown (h.bl x m).1 hg (hn x m), (h.bl x m).2⟩, h.so⟩
theorem St.sub (h : St w0 w L) (hs : L'.Sublist L) : St w0 w L' := ⟨h.hb, fun x m => h.bl x (hs.subset m), h.so.sublist hs⟩
theorem St.tail {x : Blk} (h : St w0 w (x :: L)) : St w0 w L := h.sub (List.sublist_cons_self _ _)
theorem St.set (h : St w0 w L) (n i : Nat) (v : Value) (e : L[n]? = some (g, cs, t)) (hL : L.set n (g, cs.setIfInBounds i v, t) = L') : St w0 (w.setCell ⟨g, i, none⟩ v) L' := by
  subst hL
  obtain ⟨h1, e1⟩ := List.getElem?_eq_some_iff.1 e
  refine ⟨below_set h.hb (h.ge n e), fun x hx => ?_, ?_⟩
  · obtain ⟨m, hm, rfl⟩ := List.mem_iff_getElem.1 hx
    rw [List.length_set] at hm
    by_cases c : n = m
    · subst c
      rw [List.getElem_set_self]
      exact ⟨blk_put (h.mem n e) i v rfl, h.ge n e⟩
    · rw [List.getElem_set_ne c]
      have hx := h.bl _ (List.getElem_mem hm)
      refine ⟨blk_far hx.1 ?_ v, hx.2⟩
      rcases Nat.lt_or_gt_of_ne c with c | c
      · have := List.pairwise_iff_getElem.1 h.so n m h1 hm c
        rw [e1] at this
        exact Nat.ne_of_lt this
      · have := List.pairwise_iff_getElem.1 h.so m n hm h1 c
        rw [e1] at this
        exact Nat.ne_of_gt this
  · refine List.pairwise_iff_getElem.2 fun i1 j1 hi hj hij => ?_
    rw [List.length_set] at hi hj
    have := List.pairwise_iff_getElem.1 h.so i1 j1 hi hj hij
    rw [List.getElem_set, List.getElem_set]
    split <;> split <;> simp_all
/-- a block's cells, from i on, stored one by one -/
def sets (w : World) (g : Nat) : Nat → List Value → World
  | _, [] => w
  | i, v :: vs => sets (w.setCell ⟨g, i, none⟩ v) g (i + 1) vs
def upd (cs : Array Value) : Nat → List Value → Array Value
  | _, [] => cs
  | i, v :: vs => upd (cs.setIfInBounds i v) (i + 1) vs
theorem sets_o {g k : Nat} (hk : k ≠ g) : ∀ (vs : List Value) (i : Nat) (w : World), (sets w g i vs).heap[k]? = w.heap[k]?
  | [], _, _ => rfl
  | v :: vs, i, w => (sets_o hk vs (i + 1) _).trans (Below.heap_setCell w ⟨g, i, none⟩ v k hk)
theorem set_set_ (L : List Blk) (n : Nat) (a b : Blk) : (L.set n a).set n b = L.set n b := by simp
theorem St.sets' (t : TypeId) (n : Nat) : ∀ (vs : List Value) (i : Nat) (w : World) (L : List Blk) (cs : Array Value), St w0 w L → L[n]? = some (g, cs, t) → St w0 (sets w g i vs) (L.set n (g, upd cs i vs, t))
  | [], i, w, L, cs, h, e => by
    have : L.set n (g, cs, t) = L := by
      obtain ⟨h1, e1⟩ := List.getElem?_eq_some_iff.1 e
      rw [← e1, List.set_getElem_self]
    show St w0 w (L.set n (g, cs, t))
    rw [this]; exact h
  | v :: vs, i, w, L, cs, h, e => by
    have h1 := h.set n i v e rfl
    have e1 : (L.set n (g, cs.setIfInBounds i v, t))[n]? = some (g, cs.setIfInBounds i v, t) := by
      rw [List.getElem?_set_self (List.getElem?_eq_some_iff.1 e).1]
    have := St.sets' t n vs (i + 1) _ _ _ h1 e1
    rw [set_set_] at this
    exact this
theorem upd_all : ∀ (vs pre old : List Value), old.length = vs.length → upd (pre ++ old).toArray pre.length vs = (pre ++ vs).toArray
  | [], pre, old, h => by
    obtain rfl := List.eq_nil_of_length_eq_zero h
    rfl
  | v :: vs, pre, [], h => by simp at h
  | v :: vs, pre, x :: old, h => by
    have e : ((pre ++ x :: old).toArray).setIfInBounds pre.length v = ((pre ++ [v]) ++ old).toArray := by
      rw [List.setIfInBounds_toArray]
      congr 1
      rw [List.set_append_right _ _ (Nat.le_refl _), Nat.sub_self]
      simp
    have ih := upd_all vs (pre ++ [v]) old (by simpa using h)
    rw [List.length_append] at ih
    show upd (((pre ++ x :: old).toArray).setIfInBounds pre.length v) (pre.length + 1) vs = _
    rw [e]
    refine ih.trans ?_
    simp
theorem St.sets (h : St w0 w L) (n : Nat) (vs : List Value) (e : L[n]? = some (g, cs, t)) (hl : cs.size = vs.length) (hL : L.set n (g, vs.toArray, t) = L') : St w0 (Sh.sets w g 0 vs) L' := by
  have := St.sets' t n vs 0 w L cs h e
  have e2 : upd cs 0 vs = vs.toArray := by
    have := upd_all vs [] cs.toList (by rw [Array.length_toList]; exact hl)
    simpa using this
  rw [e2, hL] at this
  exact this
end
end Go.Proofs.Ytjicfkmpgogppaa.Sh
namespace Go.Proofs.Ytjicfkmpgogppaa.Plain
set_option linter.unusedVariables false
set_option linter.unusedSimpArgs false
open Go Go.RowKit Go.Proofs.YtjicfkmpgogppaaW.PrintWords Go.Proofs.YtjicfkmpgogppaaW.PrintLast Go.Proofs.YtjicfkmpgogppaaW.PrintMore
theorem data_append (A B : ByteArray) : (A ++ B).data.toList = A.data.toList ++ B.data.toList := by
  rw [ByteArray.data_append, Array.toList_append]
end Go.Proofs.Ytjicfkmpgogppaa.Plain
namespace Go.Proofs.Ytjicfkmpgogppaa.Words
set_option linter.unusedVariables false
set_option linter.unusedSimpArgs false
open Go Go.RowKit Go.Proofs.Ytjicfkmpgogppaa.Plain Go.Proofs.Ytjicfkmpgogppaa.PA Go.Proofs.YtjicfkmpgogppaaW.PrintWords Go.Proofs.YtjicfkmpgogppaaW.PrintLast Go.Proofs.YtjicfkmpgogppaaW.PrintMore
theorem fold_some {n : Int} (h0 : -9223372036854775808 ≤ n) (h1 : n ≤ 9223372036854775807) : words_Fold.f n = some (if 0 ≤ n then 2 * n else -2 * n - 1) := by
  unfold words_Fold.f
  rw [wu64, wu64]
  by_cases h : 0 ≤ n
  · rw [if_pos h, show n / 9223372036854775808 % 18446744073709551616 = 0 by omega, xor64_zero _ (by omega) (by omega)]
    unfold wrap64; congr 1; omega
  · rw [if_neg h, show n / 9223372036854775808 % 18446744073709551616 = 18446744073709551615 by omega, xor64_ones _ (by omega) (by omega)]
    unfold wrap64; congr 1; omega
theorem unfold_some {m : Int} (h0 : 0 ≤ m) (h1 : m < 18446744073709551616) : words_Unfold.f m = some (if m % 2 = 0 then m / 2 else -(m / 2) - 1) := by
  unfold words_Unfold.f
  rw [and_one _ h0 h1, w64 (n := m / 2) (by omega) (by omega), w64 (n := m % 2) (by omega) (by omega), w64 (n := -(m % 2)) (by omega) (by omega)]
  by_cases h : m % 2 = 0
  · rw [if_pos h, h, show (-0 : Int) = 0 by rfl, xori_zero _ (by omega) (by omega)]
  · rw [if_neg h, show m % 2 = 1 by omega, xori_neg _ (by omega) (by omega)]
end Go.Proofs.Ytjicfkmpgogppaa.Words
namespace Go.Proofs.Ytjicfkmpgogppaa.Vs
set_option linter.unusedVariables false
set_option linter.unusedSimpArgs false
open Go Go.RowKit Go.Proofs.Ytjicfkmpgogppaa.Plain Go.Proofs.Ytjicfkmpgogppaa.PA Go.Proofs.YtjicfkmpgogppaaW.PrintWords Go.Proofs.YtjicfkmpgogppaaW.PrintLast Go.Proofs.YtjicfkmpgogppaaW.PrintMore
abbrev V := S54
abbrev W := S57
mutual
def toW : V → W
  | ⟨a, b, c, l⟩ => ⟨a, b, c, toWs l⟩
def toWs : List V → List W
  | [] => []
  | x :: l => toW x :: toWs l
end
theorem toWs_map : ∀ l, toWs l = l.map toW
  | [] => rfl
  | x :: l => by simp [toWs, toWs_map l]
theorem toW_0 : ∀ x : V, (toW x).f0 = x.f0
  | ⟨a, b, c, l⟩ => by simp [toW]
theorem toW_1 : ∀ x : V, (toW x).f1 = x.f1
  | ⟨a, b, c, l⟩ => by simp [toW]
theorem toW_2 : ∀ x : V, (toW x).f2 = x.f2
  | ⟨a, b, c, l⟩ => by simp [toW]
theorem toW_3 : ∀ x : V, (toW x).f3 = toWs x.f3
  | ⟨a, b, c, l⟩ => by simp [toW]
mutual
/-- no list of more than a thousand values -/
def Small : V → Prop
  | ⟨_, _, _, l⟩ => l.length ≤ 1000 ∧ Smalls l
def Smalls : List V → Prop
  | [] => True
  | x :: l => Small x ∧ Smalls l
end
theorem Smalls_iff : ∀ l, Smalls l ↔ ∀ x ∈ l, Small x
  | [] => by simp [Smalls]
  | x :: l => by simp [Smalls, Smalls_iff l]
theorem Small_eq : ∀ x : V, Small x ↔ x.f3.length ≤ 1000 ∧ ∀ y ∈ x.f3, Small y
  | ⟨a, b, c, l⟩ => by simp [Small, Smalls_iff]
theorem V_ind {P : V → Prop} (h : ∀ a b c l, (∀ x ∈ l, P x) → P ⟨a, b, c, l⟩) : ∀ x, P x
  | ⟨a, b, c, l⟩ => h a b c l (fun x _ => V_ind h x)
theorem up_le {β : Type} {f : Nat → Option β} (hm : ∀ k, LeO (f k) (f (k + 1))) {K K' : Nat} (h : K ≤ K') {r : β} (e : f K = some r) : f K' = some r := by
  induction K' with
  | zero => rw [Nat.le_zero.mp h] at e; exact e
  | succ m ih =>
    rcases Nat.lt_or_ge m K with h1 | h1
    · rw [show K = m + 1 by omega] at e; exact e
    · exact hm m _ (ih h1)
/-- one bound for all of a list -/
theorem up_all {α : Type} {Q : Nat → α → Prop} (hm : ∀ K K' x, K ≤ K' → Q K x → Q K' x) : ∀ l : List α, (∀ x ∈ l, ∃ K, Q K x) → ∃ K, ∀ x ∈ l, Q K x
  | [], _ => ⟨0, fun _ h => by cases h⟩
  | x :: l, h => by
    obtain ⟨K, hK⟩ := h x (by simp)
    obtain ⟨K2, hK2⟩ := up_all hm l (fun y hy => h y (by simp [hy]))
    refine ⟨max K K2, fun y hy => ?_⟩
    rcases List.mem_cons.mp hy with rfl | hy
    · exact hm _ _ _ (Nat.le_max_left _ _) hK
    · exact hm _ _ _ (Nat.le_max_right _ _) (hK2 y hy)
theorem rdV (l : List V) (i : Int) (h0 : 0 ≤ i) (h1 : i < l.length) : rd_T54 l i ∈ l ∧ rd_T57 (toWs l) i = toW (rd_T54 l i) := by
  have hi : i.toNat < l.length := by omega
  unfold rd_T54 rd_T57
  rw [toWs_map]
  simp only [List.getD_eq_getElem?_getD, List.getElem?_map, List.getElem?_eq_getElem hi, Option.map_some, Option.getD_some]
  exact ⟨List.getElem_mem hi, trivial⟩
end Go.Proofs.Ytjicfkmpgogppaa.Vs
namespace Go.Proofs.Ytjicfkmpgogppaa.WordsA
set_option linter.unusedVariables false
set_option linter.unusedSimpArgs false
open Go Go.RowKit Go.Proofs.Ytjicfkmpgogppaa.Plain Go.Proofs.Ytjicfkmpgogppaa.PA Go.Proofs.YtjicfkmpgogppaaW.PrintWords Go.Proofs.YtjicfkmpgogppaaW.PrintLast Go.Proofs.YtjicfkmpgogppaaW.PrintMore
theorem fold_some {n : Int} (h0 : -9223372036854775808 ≤ n) (h1 : n ≤ 9223372036854775807) : words_Fold.f n = some (if 0 ≤ n then 2 * n else -2 * n - 1) := by
  unfold words_Fold.f
  rw [wu64, wu64]
  by_cases h : 0 ≤ n
  · rw [if_pos h, show n / 9223372036854775808 % 18446744073709551616 = 0 by omega, xor64_zero _ (by omega) (by omega)]
    unfold wrap64; congr 1; omega
  · rw [if_neg h, show n / 9223372036854775808 % 18446744073709551616 = 18446744073709551615 by omega, xor64_ones _ (by omega) (by omega)]
    unfold wrap64; congr 1; omega
end Go.Proofs.Ytjicfkmpgogppaa.WordsA
