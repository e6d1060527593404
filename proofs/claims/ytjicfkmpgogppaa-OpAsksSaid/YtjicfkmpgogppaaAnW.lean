/-
  An ask's Args, walked: what it answers is a row of its own.
-/
import Derived.Test.YtjicfkmpgogppaaPAx19
import Derived.Test.YtjicfkmpgogppaaH3
import Derived.Test.YtjicfkmpgogppaaH0
import Derived.LoopTactic
import Derived.Outline
import Derived.Deep.RegionHeld3
namespace Go.Proofs.Ytjicfkmpgogppaa.An
set_option linter.unusedVariables false
set_option linter.unusedSimpArgs false
open Go Go.RowKit Go.Proofs.Ytjicfkmpgogppaa.Plain Go.Proofs.Ytjicfkmpgogppaa.Vs Go.Proofs.Ytjicfkmpgogppaa.Sh Go.Proofs.Ytjicfkmpgogppaa.PA Go.Proofs.YtjicfkmpgogppaaW.PrintWords Go.Proofs.YtjicfkmpgogppaaW.PrintLast Go.Proofs.YtjicfkmpgogppaaW.PrintMore
open Go.Proofs.Ytjicfkmpgogppaa.Gv (strV numV allV nodeV flowV A_ E0)
set_option maxHeartbeats 400000 in
set_option maxRecDepth 100000 in
theorem num0 (n : Int) (w : World) : Calls Try.prog 48 #[.int .i64 n] w fun e w' => e = .returned (.agg #[.int .i64 0, .int .i64 n, .string E0, .slice none 0 0]) ∧ Bl w w' := by
  have hu := Try.underlying54
  have H := (St.start w).alloc #[.int .i64 0, .int .i64 n, .string E0, .slice none 0 0] 54
  go_enter Try.func48, Try.ntmps48
  go_wp2
  exact bodyPost_ret (results_single Try.results48 (.cell w.heap.size 54 _ (0, 0) _ rfl (H.mem 0 rfl) hu rfl (by kernel_rfl) .nil)) rfl ⟨rfl, H.hb⟩
set_option maxHeartbeats 400000 in
set_option maxRecDepth 100000 in
theorem str0 (s : ByteArray) (w : World) : Calls Try.prog 64 #[.string s] w fun e w' => e = .returned (.agg #[.int .i64 1, .int .i64 0, .string s, .slice none 0 0]) ∧ Bl w w' := by
  have hu := Try.underlying54
  have H := (St.start w).alloc #[.int .i64 1, .int .i64 0, .string s, .slice none 0 0] 54
  go_enter Try.func64, Try.ntmps64
  go_wp2
  exact bodyPost_ret (results_single Try.results64 (.cell w.heap.size 54 _ (0, 0) _ rfl (H.mem 0 rfl) hu rfl (by kernel_rfl) .nil)) rfl ⟨rfl, H.hb⟩
set_option maxHeartbeats 400000 in
set_option maxRecDepth 100000 in
theorem num1 (n : Int) (w : World) : Calls Try.prog 79 #[.int .i64 n] w fun e w' => e = .returned (.agg #[.int .i64 0, .int .i64 n, .string E0, .slice none 0 0]) ∧ Bl w w' := by
  have hu := Try.underlying54
  have H := (St.start w).alloc #[.int .i64 0, .int .i64 0, .string E0, .slice none 0 0] 54
  go_enter Try.func79, Try.ntmps79
  go_wp2_with (go_at_call 48; go_loud ((with_reducible refine (num0 _ _).mono ?_); rintro e wq ⟨rfl, hq⟩; have H1 := H.go hq; have c := H1.c 0 rfl; have q := H1.q 0 rfl))
  have H2 := H1.sets 0 [.int .i64 0, .int .i64 n, .string E0, .slice none 0 0] rfl rfl rfl
  exact bodyPost_ret (results_single Try.results79 (.cell w.heap.size 54 _ (0, 0) _ rfl (H2.mem 0 rfl) hu rfl (by kernel_rfl) .nil)) rfl ⟨rfl, H2.hb⟩
theorem row_of {W1 : World} {g : Nat} {cs : Array Value} (h : W1.heap[g]? = some (.cells cs 54 (0, 0))) (xs : List V) (hn : xs.length ≤ 1000000)
    (hk : ∀ j x, xs[j]? = some x → ∃ A c, x.f3.length ≤ c ∧ Kd.C k54 W1 A x.f3.length x.f3 ∧ cs[j * 4 + 0]? = some (.int .i64 x.f0) ∧ cs[j * 4 + 1]? = some (.int .i64 x.f1) ∧ cs[j * 4 + 2]? = some (.string x.f2) ∧ cs[j * 4 + 3]? = some (.slice A x.f3.length c)) : Kd.C k54 W1 (some ⟨g, 0, none⟩) xs.length xs := by
  have hadd : ∀ n : Nat, (⟨g, 0, none⟩ : Addr).add n = ⟨g, n, none⟩ := fun n => by unfold Addr.add; split <;> simp_all
  refine ⟨rfl, by omega, fun _ => ⟨⟨g, 0, none⟩, rfl, fun j p hj => ?_⟩⟩
  obtain ⟨A, c, hc, hC, h0, h1, h2, h3⟩ := hk j p hj
  refine ⟨_, rfl, k54_mk W1 p hc hC, fun i u hi => ?_⟩
  rw [hadd, blk_cell h]
  match i, hi with
  | 0, hi => exact h0.trans hi
  | 1, hi => exact h1.trans hi
  | 2, hi => exact h2.trans hi
  | 3, hi => exact h3.trans hi
  | i + 4, hi => simp at hi
theorem foot_of {W1 : World} {g : Nat} {cs : Array Value} (ok : Nat → Prop) (hg : ok g) (h : W1.heap[g]? = some (.cells cs 54 (0, 0))) (xs : List V) (hn : xs.length ≤ 1000000)
    (hk : ∀ j x, xs[j]? = some x → ∃ A c, x.f3.length ≤ c ∧ Kd.F k54 W1 ok A x.f3.length x.f3 ∧ cs[j * 4 + 0]? = some (.int .i64 x.f0) ∧ cs[j * 4 + 1]? = some (.int .i64 x.f1) ∧ cs[j * 4 + 2]? = some (.string x.f2) ∧ cs[j * 4 + 3]? = some (.slice A x.f3.length c)) : Kd.F k54 W1 ok (some ⟨g, 0, none⟩) xs.length xs := by
  intro W2 hW
  refine row_of ((hW g hg (blk_lt h)).trans h) xs hn (fun j x hj => ?_)
  obtain ⟨A, c, hc, hF, r⟩ := hk j x hj
  exact ⟨A, c, hc, hF W2 hW, r⟩
def cellV (x : V) : List Value := [.int .i64 x.f0, .int .i64 x.f1, .string x.f2, .slice none 0 0]
theorem fm_get : ∀ (xs : List V) (j : Nat) (x : V), xs[j]? = some x → ∀ i, i < 4 → (xs.flatMap cellV)[j * 4 + i]? = (cellV x)[i]?
  | [], j, x, h => by simp at h
  | y :: xs, 0, x, h => by
    obtain rfl : y = x := by simpa using h
    intro i hi
    rw [List.flatMap_cons, List.getElem?_append_left (by show 0 * 4 + i < 4; omega)]
    congr 1; omega
  | y :: xs, j + 1, x, h => by
    intro i hi
    rw [List.flatMap_cons, List.getElem?_append_right (by show 4 ≤ (j + 1) * 4 + i; omega), ← fm_get xs j x (by simpa using h) i hi]
    congr 1
    show (j + 1) * 4 + i - 4 = _
    omega
/-- a row of plain values in one block -/
theorem foot_flat {W1 : World} {g : Nat} (ok : Nat → Prop) (hg : ok g) (xs : List V) (hx : ∀ x ∈ xs, x.f3 = []) (hn : xs.length ≤ 1000000) (h : W1.heap[g]? = some (.cells (xs.flatMap cellV).toArray 54 (0, 0))) : Kd.F k54 W1 ok (some ⟨g, 0, none⟩) xs.length xs := by
  refine foot_of ok hg h xs hn (fun j x hj => ?_)
  have hf := hx x (List.mem_of_getElem? hj)
  have e := fm_get xs j x hj
  refine ⟨none, 0, by rw [hf]; exact Nat.le_refl _, by rw [hf]; exact Kd.F_nil _ _ _, ?_, ?_, ?_, ?_⟩
  · rw [List.getElem?_toArray]; exact e 0 (by omega)
  · rw [List.getElem?_toArray]; exact e 1 (by omega)
  · rw [List.getElem?_toArray]; exact e 2 (by omega)
  · rw [List.getElem?_toArray, hf]; exact e 3 (by omega)
theorem N_block {W : World} {g base : Nat} (xs : List V) (cs : List Value) (hl : cs.length = xs.length * 4) (hm : xs.length ≤ 1000000) (h : W.heap[g]? = some (.cells cs.toArray 54 (0, 0))) (hg : base ≤ g) (ok : Nat → Prop) (hok : ok g) (hone : ∀ u ∈ cs, u.oneCell' = true) (hK : ∀ j x, xs[j]? = some x → Kd.FK k54 W (fun k => ok k ∧ k ≠ g) x ((cs.drop (j * 4)).take 4)) : Kd.N k54 54 W base ok (.slice (some ⟨g, 0, none⟩) xs.length xs.length) xs := by
  have hr : ((List.range xs.length).map (fun j => (cs.drop (j * 4)).take 4)).length = xs.length := by simp
  refine ⟨fun k hk => by obtain rfl : g = k := by simpa [Value.ownBlock] using hk
                         exact hok, (List.range xs.length).map (fun j => (cs.drop (j * 4)).take 4), hr, ⟨fun k hk => hk.symm, cs, ?_, ?_⟩, fun j x c hx hc => ?_⟩
  · rw [hr]
    refine ⟨hl, .inr ⟨g, xs.length, cs.toArray, rfl, hg, h, Nat.le_refl _, by simp only [maxLen]; omega, hl, ?_⟩⟩
    show cs.take (xs.length * 4) = cs
    rw [← hl, List.take_length]
  · refine ⟨by rw [hr]; exact hl, fun j p hj => ?_⟩
    have hjl : j < xs.length := by
      have := (List.getElem?_eq_some_iff.1 hj).1
      rw [hr] at this; exact this
    rw [List.getElem?_map, List.getElem?_range hjl] at hj
    have hp := Option.some.inj hj
    exact ⟨hp, by rw [List.length_take, List.length_drop, hl]; show min 4 (xs.length * 4 - j * 4) = 4; omega, fun u hu => hone u (List.mem_of_mem_drop (List.mem_of_mem_take hu))⟩
  · have hjl : j < xs.length := (List.getElem?_eq_some_iff.1 hx).1
    rw [List.getElem?_map, List.getElem?_range hjl] at hc
    have hp := Option.some.inj hc
    subst hp
    refine Kd.FK_mono (hK j x hx) (fun k hk => ⟨hk.1, fun e => hk.2 ?_⟩)
    simpa [Value.ownBlock] using e
theorem fm_take : ∀ (xs : List V) (j : Nat) (x : V), xs[j]? = some x → ((xs.flatMap cellV).drop (j * 4)).take 4 = cellV x
  | [], j, x, h => by simp at h
  | y :: xs, 0, x, h => by
    obtain rfl : y = x := by simpa using h
    rfl
  | y :: xs, j + 1, x, h => by
    have e : (y :: xs).flatMap cellV = cellV y ++ xs.flatMap cellV := List.flatMap_cons
    rw [e, show (j + 1) * 4 = (cellV y).length + j * 4 by show _ = 4 + j * 4; omega, ← List.drop_drop, List.drop_left]
    exact fm_take xs j x (by simpa using h)
theorem fm_len (xs : List V) : (xs.flatMap cellV).length = xs.length * 4 := by
  induction xs with
  | nil => rfl
  | cons x xs ih => rw [List.flatMap_cons, List.length_append, ih, List.length_cons]; show 4 + _ = _; omega
theorem N_flat {W : World} {g base : Nat} (xs : List V) (hx : ∀ x ∈ xs, x.f3 = []) (hn : xs.length ≤ 1000000) (h : W.heap[g]? = some (.cells (xs.flatMap cellV).toArray 54 (0, 0))) (hg : base ≤ g) : Kd.N k54 54 W base (fun k => base ≤ k) (.slice (some ⟨g, 0, none⟩) xs.length xs.length) xs := by
  refine N_block xs _ (fm_len xs) hn h hg _ hg (fun u hu => ?_) (fun j x hj => ?_)
  · obtain ⟨x, _, hu⟩ := List.mem_flatMap.1 hu
    simp only [cellV, List.mem_cons, List.not_mem_nil, or_false] at hu
    rcases hu with rfl | rfl | rfl | rfl <;> rfl
  · rw [fm_take xs j x hj]
    have hf := hx x (List.mem_of_getElem? hj)
    have := k54_mkF W (fun k => base ≤ k ∧ k ≠ g) x (A3 := none) (c3 := 0) (by rw [hf]; exact Nat.le_refl _) (by rw [hf]; exact Kd.F_nil _ _ _)
    rw [hf] at this
    exact this
def Post (w : World) (l : List V) (e : Ending) (w' : World) : Prop := ∃ A, e = .returned (.slice A l.length l.length) ∧ Kd.N k54 54 w' w.heap.size (fun k => w.heap.size ≤ k) (.slice A l.length l.length) l ∧ Bl w w'
set_option maxHeartbeats 8000000 in
set_option maxRecDepth 100000 in
theorem args_0 (run node tri : Int) (ok : Bool) (per rol til cal : Int) (nm fn : ByteArray) (A : Option Addr) (c : Nat) (l : List A_) (w : World) :
    Calls Try.prog 42 #[.agg #[.int .i64 0, .int .i64 run, .int .i64 node, .int .i64 tri, .bool ok, .int .i64 per, .int .i64 rol, .int .i64 til, .int .i64 cal, .string nm, .string fn, .slice A l.length c]] w (Post w [numV run]) := by
  have hu := Try.underlying54
  have hu2 := Try.underlying107
  have H := (St.start w).alloc #[.int .i64 0, .int .i64 run, .int .i64 node, .int .i64 tri, .bool ok, .int .i64 per, .int .i64 rol, .int .i64 til, .int .i64 cal, .string nm, .string fn, .slice A l.length c] 107
  go_enter Try.func42, Try.ntmps42
  go_upto_region 1 with fail
  generalize w.alloc (.cells #[.int .i64 0, .int .i64 run, .int .i64 node, .int .i64 tri, .bool ok, .int .i64 per, .int .i64 rol, .int .i64 til, .int .i64 cal, .string nm, .string fn, .slice A l.length c] 107) = w0 at H ⊢
  obtain ⟨g0, hg0⟩ : ∃ g, w.heap.size = g := ⟨_, rfl⟩
  rw [hg0] at H ⊢
  clear hg0
  have cc := H.c 0 rfl
  skip
  cases ok <;>
  · go_wp2_with (first | (go_at_call 48; go_loud ((with_reducible refine (num0 _ _).mono ?_); rintro e wq ⟨rfl, hq⟩; have H := H.go hq; have cc := H.c 0 rfl; clear hq)))
    have H2 := H.alloc #[.int .i64 0, .int .i64 run, .string E0, .slice none 0 0] 54
    exact bodyPost_ret (results_tmp Try.results42 _ _ _) rfl ⟨_, rfl, N_flat [numV run] (by simp [numV, strV]) (by simp) (H2.mem 0 rfl) (H2.ge 0 rfl), H2.hb⟩
set_option maxHeartbeats 8000000 in
set_option maxRecDepth 100000 in
theorem args_3 (run node tri : Int) (ok : Bool) (per rol til cal : Int) (nm fn : ByteArray) (A : Option Addr) (c : Nat) (l : List A_) (w : World) :
    Calls Try.prog 42 #[.agg #[.int .i64 3, .int .i64 run, .int .i64 node, .int .i64 tri, .bool ok, .int .i64 per, .int .i64 rol, .int .i64 til, .int .i64 cal, .string nm, .string fn, .slice A l.length c]] w (Post w [strV nm]) := by
  have hu := Try.underlying54
  have hu2 := Try.underlying107
  have H := (St.start w).alloc #[.int .i64 3, .int .i64 run, .int .i64 node, .int .i64 tri, .bool ok, .int .i64 per, .int .i64 rol, .int .i64 til, .int .i64 cal, .string nm, .string fn, .slice A l.length c] 107
  go_enter Try.func42, Try.ntmps42
  go_upto_region 1 with fail
  generalize w.alloc (.cells #[.int .i64 3, .int .i64 run, .int .i64 node, .int .i64 tri, .bool ok, .int .i64 per, .int .i64 rol, .int .i64 til, .int .i64 cal, .string nm, .string fn, .slice A l.length c] 107) = w0 at H ⊢
  obtain ⟨g0, hg0⟩ : ∃ g, w.heap.size = g := ⟨_, rfl⟩
  rw [hg0] at H ⊢
  clear hg0
  have cc := H.c 0 rfl
  skip
  cases ok <;>
  · go_wp2_with (first | (go_at_call 64; go_loud ((with_reducible refine (str0 _ _).mono ?_); rintro e wq ⟨rfl, hq⟩; have H := H.go hq; have cc := H.c 0 rfl; clear hq)))
    have H2 := H.alloc #[.int .i64 1, .int .i64 0, .string nm, .slice none 0 0] 54
    exact bodyPost_ret (results_tmp Try.results42 _ _ _) rfl ⟨_, rfl, N_flat [strV nm] (by simp [numV, strV]) (by simp) (H2.mem 0 rfl) (H2.ge 0 rfl), H2.hb⟩
set_option maxHeartbeats 8000000 in
set_option maxRecDepth 100000 in
theorem args_5 (run node tri : Int) (ok : Bool) (per rol til cal : Int) (nm fn : ByteArray) (A : Option Addr) (c : Nat) (l : List A_) (w : World) :
    Calls Try.prog 42 #[.agg #[.int .i64 5, .int .i64 run, .int .i64 node, .int .i64 tri, .bool ok, .int .i64 per, .int .i64 rol, .int .i64 til, .int .i64 cal, .string nm, .string fn, .slice A l.length c]] w (Post w [numV per, numV til]) := by
  have hu := Try.underlying54
  have hu2 := Try.underlying107
  have H := (St.start w).alloc #[.int .i64 5, .int .i64 run, .int .i64 node, .int .i64 tri, .bool ok, .int .i64 per, .int .i64 rol, .int .i64 til, .int .i64 cal, .string nm, .string fn, .slice A l.length c] 107
  go_enter Try.func42, Try.ntmps42
  go_upto_region 1 with fail
  generalize w.alloc (.cells #[.int .i64 5, .int .i64 run, .int .i64 node, .int .i64 tri, .bool ok, .int .i64 per, .int .i64 rol, .int .i64 til, .int .i64 cal, .string nm, .string fn, .slice A l.length c] 107) = w0 at H ⊢
  obtain ⟨g0, hg0⟩ : ∃ g, w.heap.size = g := ⟨_, rfl⟩
  rw [hg0] at H ⊢
  clear hg0
  have cc := H.c 0 rfl
  skip
  cases ok <;>
  · go_upto_region 14 with fail
    have H := H.drew
    go_region_held3 (fun w' => w'.cell? ⟨g0, 5, none⟩ = some (.int .i64 per) ∧ w'.cell? ⟨g0, 7, none⟩ = some (.int .i64 til)) (go_keep) (first | (go_at_call 79; (with_reducible refine (num1 _ _).mono ?_); rintro e wq ⟨rfl, hq⟩; have H := H.go hq; have cc := H.c 0 rfl; clear hq) | (go_at_call 48; (with_reducible refine (num0 _ _).mono ?_); rintro e wq ⟨rfl, hq⟩; have H := H.go hq; have cc := H.c 0 rfl; clear hq))
    go_wp2
    have H2 := H.alloc #[.int .i64 0, .int .i64 per, .string E0, .slice none 0 0, .int .i64 0, .int .i64 til, .string E0, .slice none 0 0] 54
    exact bodyPost_ret (results_tmp Try.results42 _ _ _) rfl ⟨_, rfl, N_flat [numV per, numV til] (by simp [numV, strV]) (by simp) (H2.mem 0 rfl) (H2.ge 0 rfl), H2.hb⟩
set_option maxHeartbeats 8000000 in
set_option maxRecDepth 100000 in
theorem args_6 (run node tri : Int) (ok : Bool) (per rol til cal : Int) (nm fn : ByteArray) (A : Option Addr) (c : Nat) (l : List A_) (w : World) :
    Calls Try.prog 42 #[.agg #[.int .i64 6, .int .i64 run, .int .i64 node, .int .i64 tri, .bool ok, .int .i64 per, .int .i64 rol, .int .i64 til, .int .i64 cal, .string nm, .string fn, .slice A l.length c]] w (Post w [numV per, numV rol]) := by
  have hu := Try.underlying54
  have hu2 := Try.underlying107
  have H := (St.start w).alloc #[.int .i64 6, .int .i64 run, .int .i64 node, .int .i64 tri, .bool ok, .int .i64 per, .int .i64 rol, .int .i64 til, .int .i64 cal, .string nm, .string fn, .slice A l.length c] 107
  go_enter Try.func42, Try.ntmps42
  go_upto_region 1 with fail
  generalize w.alloc (.cells #[.int .i64 6, .int .i64 run, .int .i64 node, .int .i64 tri, .bool ok, .int .i64 per, .int .i64 rol, .int .i64 til, .int .i64 cal, .string nm, .string fn, .slice A l.length c] 107) = w0 at H ⊢
  obtain ⟨g0, hg0⟩ : ∃ g, w.heap.size = g := ⟨_, rfl⟩
  rw [hg0] at H ⊢
  clear hg0
  have cc := H.c 0 rfl
  skip
  cases ok <;>
  · go_upto_region 16 with fail
    have H := H.drew
    go_region_held3 (fun w' => w'.cell? ⟨g0, 5, none⟩ = some (.int .i64 per) ∧ w'.cell? ⟨g0, 6, none⟩ = some (.int .i64 rol)) (go_keep) (first | (go_at_call 79; (with_reducible refine (num1 _ _).mono ?_); rintro e wq ⟨rfl, hq⟩; have H := H.go hq; have cc := H.c 0 rfl; clear hq))
    go_wp2
    have H2 := H.alloc #[.int .i64 0, .int .i64 per, .string E0, .slice none 0 0, .int .i64 0, .int .i64 rol, .string E0, .slice none 0 0] 54
    exact bodyPost_ret (results_tmp Try.results42 _ _ _) rfl ⟨_, rfl, N_flat [numV per, numV rol] (by simp [numV, strV]) (by simp) (H2.mem 0 rfl) (H2.ge 0 rfl), H2.hb⟩
set_option maxHeartbeats 8000000 in
set_option maxRecDepth 100000 in
theorem args_8 (run node tri : Int) (ok : Bool) (per rol til cal : Int) (nm fn : ByteArray) (A : Option Addr) (c : Nat) (l : List A_) (w : World) :
    Calls Try.prog 42 #[.agg #[.int .i64 8, .int .i64 run, .int .i64 node, .int .i64 tri, .bool ok, .int .i64 per, .int .i64 rol, .int .i64 til, .int .i64 cal, .string nm, .string fn, .slice A l.length c]] w (Post w [numV cal, strV nm]) := by
  have hu := Try.underlying54
  have hu2 := Try.underlying107
  have H := (St.start w).alloc #[.int .i64 8, .int .i64 run, .int .i64 node, .int .i64 tri, .bool ok, .int .i64 per, .int .i64 rol, .int .i64 til, .int .i64 cal, .string nm, .string fn, .slice A l.length c] 107
  go_enter Try.func42, Try.ntmps42
  go_upto_region 1 with fail
  generalize w.alloc (.cells #[.int .i64 8, .int .i64 run, .int .i64 node, .int .i64 tri, .bool ok, .int .i64 per, .int .i64 rol, .int .i64 til, .int .i64 cal, .string nm, .string fn, .slice A l.length c] 107) = w0 at H ⊢
  obtain ⟨g0, hg0⟩ : ∃ g, w.heap.size = g := ⟨_, rfl⟩
  rw [hg0] at H ⊢
  clear hg0
  have cc := H.c 0 rfl
  skip
  cases ok <;>
  · go_upto_region 19 with fail
    have H := H.drew
    go_region_held3 (fun w' => w'.cell? ⟨g0, 8, none⟩ = some (.int .i64 cal) ∧ w'.cell? ⟨g0, 9, none⟩ = some (.string nm)) (go_keep) (first | (go_at_call 79; (with_reducible refine (num1 _ _).mono ?_); rintro e wq ⟨rfl, hq⟩; have H := H.go hq; have cc := H.c 0 rfl; clear hq) | (go_at_call 64; (with_reducible refine (str0 _ _).mono ?_); rintro e wq ⟨rfl, hq⟩; have H := H.go hq; have cc := H.c 0 rfl; clear hq))
    go_wp2
    have H2 := H.alloc #[.int .i64 0, .int .i64 cal, .string E0, .slice none 0 0, .int .i64 1, .int .i64 0, .string nm, .slice none 0 0] 54
    exact bodyPost_ret (results_tmp Try.results42 _ _ _) rfl ⟨_, rfl, N_flat [numV cal, strV nm] (by simp [numV, strV]) (by simp) (H2.mem 0 rfl) (H2.ge 0 rfl), H2.hb⟩
set_option maxHeartbeats 8000000 in
set_option maxRecDepth 100000 in
theorem args_9 (run node tri : Int) (ok : Bool) (per rol til cal : Int) (nm fn : ByteArray) (A : Option Addr) (c : Nat) (l : List A_) (w : World) :
    Calls Try.prog 42 #[.agg #[.int .i64 9, .int .i64 run, .int .i64 node, .int .i64 tri, .bool ok, .int .i64 per, .int .i64 rol, .int .i64 til, .int .i64 cal, .string nm, .string fn, .slice A l.length c]] w (Post w [numV cal, strV nm]) := by
  have hu := Try.underlying54
  have hu2 := Try.underlying107
  have H := (St.start w).alloc #[.int .i64 9, .int .i64 run, .int .i64 node, .int .i64 tri, .bool ok, .int .i64 per, .int .i64 rol, .int .i64 til, .int .i64 cal, .string nm, .string fn, .slice A l.length c] 107
  go_enter Try.func42, Try.ntmps42
  go_upto_region 1 with fail
  generalize w.alloc (.cells #[.int .i64 9, .int .i64 run, .int .i64 node, .int .i64 tri, .bool ok, .int .i64 per, .int .i64 rol, .int .i64 til, .int .i64 cal, .string nm, .string fn, .slice A l.length c] 107) = w0 at H ⊢
  obtain ⟨g0, hg0⟩ : ∃ g, w.heap.size = g := ⟨_, rfl⟩
  rw [hg0] at H ⊢
  clear hg0
  have cc := H.c 0 rfl
  skip
  cases ok <;>
  · go_upto_region 19 with fail
    have H := H.drew
    go_region_held3 (fun w' => w'.cell? ⟨g0, 8, none⟩ = some (.int .i64 cal) ∧ w'.cell? ⟨g0, 9, none⟩ = some (.string nm)) (go_keep) (first | (go_at_call 79; (with_reducible refine (num1 _ _).mono ?_); rintro e wq ⟨rfl, hq⟩; have H := H.go hq; have cc := H.c 0 rfl; clear hq) | (go_at_call 64; (with_reducible refine (str0 _ _).mono ?_); rintro e wq ⟨rfl, hq⟩; have H := H.go hq; have cc := H.c 0 rfl; clear hq))
    go_wp2
    have H2 := H.alloc #[.int .i64 0, .int .i64 cal, .string E0, .slice none 0 0, .int .i64 1, .int .i64 0, .string nm, .slice none 0 0] 54
    exact bodyPost_ret (results_tmp Try.results42 _ _ _) rfl ⟨_, rfl, N_flat [numV cal, strV nm] (by simp [numV, strV]) (by simp) (H2.mem 0 rfl) (H2.ge 0 rfl), H2.hb⟩
set_option maxHeartbeats 8000000 in
set_option maxRecDepth 100000 in
theorem args_2t (run node tri : Int) (per rol til cal : Int) (nm fn : ByteArray) (A : Option Addr) (c : Nat) (l : List A_) (w : World) :
    Calls Try.prog 42 #[.agg #[.int .i64 2, .int .i64 run, .int .i64 node, .int .i64 tri, .bool true, .int .i64 per, .int .i64 rol, .int .i64 til, .int .i64 cal, .string nm, .string fn, .slice A l.length c]] w (Post w [numV run, numV node, numV tri, numV 1]) := by
  have hu := Try.underlying54
  have hu2 := Try.underlying107
  have H := (St.start w).alloc #[.int .i64 2, .int .i64 run, .int .i64 node, .int .i64 tri, .bool true, .int .i64 per, .int .i64 rol, .int .i64 til, .int .i64 cal, .string nm, .string fn, .slice A l.length c] 107
  go_enter Try.func42, Try.ntmps42
  go_upto_region 1 with fail
  generalize w.alloc (.cells #[.int .i64 2, .int .i64 run, .int .i64 node, .int .i64 tri, .bool true, .int .i64 per, .int .i64 rol, .int .i64 til, .int .i64 cal, .string nm, .string fn, .slice A l.length c] 107) = w0 at H ⊢
  obtain ⟨g0, hg0⟩ : ∃ g, w.heap.size = g := ⟨_, rfl⟩
  rw [hg0] at H ⊢
  clear hg0
  have cc := H.c 0 rfl
  go_upto_region 8 with fail
  have H := H.drew
  go_region_held3 (fun w' => w'.cell? ⟨g0, 1, none⟩ = some (.int .i64 run) ∧ w'.cell? ⟨g0, 2, none⟩ = some (.int .i64 node) ∧ w'.cell? ⟨g0, 3, none⟩ = some (.int .i64 tri)) (go_keep) (first | (go_at_call 48; (with_reducible refine (num0 _ _).mono ?_); rintro e wq ⟨rfl, hq⟩; have H := H.go hq; have cc := H.c 0 rfl; clear hq) | (go_at_call 79; (with_reducible refine (num1 _ _).mono ?_); rintro e wq ⟨rfl, hq⟩; have H := H.go hq; have cc := H.c 0 rfl; clear hq))
  go_wp2
  have H2 := H.alloc #[.int .i64 0, .int .i64 run, .string E0, .slice none 0 0, .int .i64 0, .int .i64 node, .string E0, .slice none 0 0, .int .i64 0, .int .i64 tri, .string E0, .slice none 0 0, .int .i64 0, .int .i64 1, .string E0, .slice none 0 0] 54
  exact bodyPost_ret (results_tmp Try.results42 _ _ _) rfl ⟨_, rfl, N_flat [numV run, numV node, numV tri, numV 1] (by simp [numV, strV]) (by simp) (H2.mem 0 rfl) (H2.ge 0 rfl), H2.hb⟩
set_option maxHeartbeats 8000000 in
set_option maxRecDepth 100000 in
theorem args_2f (run node tri : Int) (per rol til cal : Int) (nm fn : ByteArray) (A : Option Addr) (c : Nat) (l : List A_) (w : World) :
    Calls Try.prog 42 #[.agg #[.int .i64 2, .int .i64 run, .int .i64 node, .int .i64 tri, .bool false, .int .i64 per, .int .i64 rol, .int .i64 til, .int .i64 cal, .string nm, .string fn, .slice A l.length c]] w (Post w [numV run, numV node, numV tri, numV 0]) := by
  have hu := Try.underlying54
  have hu2 := Try.underlying107
  have H := (St.start w).alloc #[.int .i64 2, .int .i64 run, .int .i64 node, .int .i64 tri, .bool false, .int .i64 per, .int .i64 rol, .int .i64 til, .int .i64 cal, .string nm, .string fn, .slice A l.length c] 107
  go_enter Try.func42, Try.ntmps42
  go_upto_region 1 with fail
  generalize w.alloc (.cells #[.int .i64 2, .int .i64 run, .int .i64 node, .int .i64 tri, .bool false, .int .i64 per, .int .i64 rol, .int .i64 til, .int .i64 cal, .string nm, .string fn, .slice A l.length c] 107) = w0 at H ⊢
  obtain ⟨g0, hg0⟩ : ∃ g, w.heap.size = g := ⟨_, rfl⟩
  rw [hg0] at H ⊢
  clear hg0
  have cc := H.c 0 rfl
  go_upto_region 8 with fail
  have H := H.drew
  go_region_held3 (fun w' => w'.cell? ⟨g0, 1, none⟩ = some (.int .i64 run) ∧ w'.cell? ⟨g0, 2, none⟩ = some (.int .i64 node) ∧ w'.cell? ⟨g0, 3, none⟩ = some (.int .i64 tri)) (go_keep) (first | (go_at_call 48; (with_reducible refine (num0 _ _).mono ?_); rintro e wq ⟨rfl, hq⟩; have H := H.go hq; have cc := H.c 0 rfl; clear hq) | (go_at_call 79; (with_reducible refine (num1 _ _).mono ?_); rintro e wq ⟨rfl, hq⟩; have H := H.go hq; have cc := H.c 0 rfl; clear hq))
  go_wp2
  have H2 := H.alloc #[.int .i64 0, .int .i64 run, .string E0, .slice none 0 0, .int .i64 0, .int .i64 node, .string E0, .slice none 0 0, .int .i64 0, .int .i64 tri, .string E0, .slice none 0 0, .int .i64 0, .int .i64 0, .string E0, .slice none 0 0] 54
  exact bodyPost_ret (results_tmp Try.results42 _ _ _) rfl ⟨_, rfl, N_flat [numV run, numV node, numV tri, numV 0] (by simp [numV, strV]) (by simp) (H2.mem 0 rfl) (H2.ge 0 rfl), H2.hb⟩
set_option maxHeartbeats 8000000 in
set_option maxRecDepth 100000 in
theorem args_4 (run node tri : Int) (ok : Bool) (per rol til cal : Int) (nm fn : ByteArray) (A : Option Addr) (c : Nat) (l : List A_) (w : World) (hC : Kd.C k48 w A l.length l) (hc : l.length ≤ c) (K : Nat) (hK : graph_Value.f K fn l = some (2, 0, E0, [strV fn, allV (l.map nodeV)])) :
    Calls Try.prog 42 #[.agg #[.int .i64 4, .int .i64 run, .int .i64 node, .int .i64 tri, .bool ok, .int .i64 per, .int .i64 rol, .int .i64 til, .int .i64 cal, .string nm, .string fn, .slice A l.length c]] w (Post w [allV [strV fn, allV (l.map nodeV)]]) := by
  have HC := Aside0.mk hC
  have HG := Aside0.mk hK
  clear hC hK
  have hu := Try.underlying54
  have hu2 := Try.underlying107
  have H := (St.start w).alloc #[.int .i64 4, .int .i64 run, .int .i64 node, .int .i64 tri, .bool ok, .int .i64 per, .int .i64 rol, .int .i64 til, .int .i64 cal, .string nm, .string fn, .slice A l.length c] 107
  go_enter Try.func42, Try.ntmps42
  go_upto_region 1 with fail
  generalize w.alloc (.cells #[.int .i64 4, .int .i64 run, .int .i64 node, .int .i64 tri, .bool ok, .int .i64 per, .int .i64 rol, .int .i64 til, .int .i64 cal, .string nm, .string fn, .slice A l.length c] 107) = w0 at H ⊢
  obtain ⟨g0, hg0⟩ : ∃ g, w.heap.size = g := ⟨_, rfl⟩
  rw [hg0] at H ⊢
  clear hg0
  have cc := H.c 0 rfl
  skip
  cases ok <;>
  · have HV := Aside0.mk (graph_Value.calls K fn A c l _ _ _ _ w0 (Kd.C_below HC.out H.hb) hc HG.out)
    clear hc
    go_wp2_with (go_at_call 25; go_loud ((with_reducible refine HV.out.mono ?_); rintro e wq ⟨u, rfl, hN, hq⟩; obtain ⟨A5, c5, rfl, l5, hF5⟩ := Kd.N_V (base' := 0) hN; have HF := Aside0.mk hF5; have HL := Aside0.mk l5; clear hF5 l5 hN))
    have hs := H.hb.size
    have H2 := (H.go hq).alloc #[.int .i64 2, .int .i64 0, .string E0, .slice A5 2 c5] 54
    have hF2 := Kd.F_alloc HF.out (.cells #[.int .i64 2, .int .i64 0, .string E0, .slice A5 2 c5] 54)
    have hlt := H2.gt 0 1 (by decide) rfl rfl
    have hFB := Kd.F_mono (ok' := fun k => w.heap.size ≤ k ∧ k ≠ wq.heap.size) (Kd.F_alloc (Kd.F_bound HF.out) (.cells #[.int .i64 2, .int .i64 0, .string E0, .slice A5 2 c5] 54)) (fun k hk => ⟨Nat.le_trans hs hk.1, Nat.ne_of_lt hk.2⟩)
    have hN := N_block [allV [strV fn, allV (l.map nodeV)]] [.int .i64 2, .int .i64 0, .string E0, .slice A5 2 c5] rfl (by simp) (H2.mem 0 rfl) (H2.ge 0 rfl) (fun k => w.heap.size ≤ k) (H2.ge 0 rfl) (by simp [Value.oneCell']) (fun j x hj => by
      match j, hj with
      | 0, hj => obtain rfl : allV [strV fn, allV (l.map nodeV)] = x := by simpa using hj
                 exact k54_mkF _ _ (allV [strV fn, allV (l.map nodeV)]) HL.out hFB
      | j + 1, hj => simp at hj)
    exact bodyPost_ret (results_tmp Try.results42 _ _ _) rfl ⟨_, rfl, hN, H2.hb⟩
set_option maxHeartbeats 8000000 in
set_option maxRecDepth 100000 in
theorem args_n (run node tri : Int) (ok : Bool) (per rol til cal : Int) (nm fn : ByteArray) (A : Option Addr) (c : Nat) (l : List A_) (w : World) (o : Int) (ho : o ≠ 0 ∧ o ≠ 2 ∧ o ≠ 3 ∧ o ≠ 4 ∧ o ≠ 5 ∧ o ≠ 6 ∧ o ≠ 8 ∧ o ≠ 9) :
    Calls Try.prog 42 #[.agg #[.int .i64 o, .int .i64 run, .int .i64 node, .int .i64 tri, .bool ok, .int .i64 per, .int .i64 rol, .int .i64 til, .int .i64 cal, .string nm, .string fn, .slice A l.length c]] w (Post w []) := by
  have hu := Try.underlying54
  have hu2 := Try.underlying107
  have H := (St.start w).alloc #[.int .i64 o, .int .i64 run, .int .i64 node, .int .i64 tri, .bool ok, .int .i64 per, .int .i64 rol, .int .i64 til, .int .i64 cal, .string nm, .string fn, .slice A l.length c] 107
  go_enter Try.func42, Try.ntmps42
  go_upto_region 1 with fail
  generalize w.alloc (.cells #[.int .i64 o, .int .i64 run, .int .i64 node, .int .i64 tri, .bool ok, .int .i64 per, .int .i64 rol, .int .i64 til, .int .i64 cal, .string nm, .string fn, .slice A l.length c] 107) = w0 at H ⊢
  obtain ⟨g0, hg0⟩ : ∃ g, w.heap.size = g := ⟨_, rfl⟩
  rw [hg0] at H ⊢
  clear hg0
  have cc := H.c 0 rfl
  skip
  have n0 : (o == 0) = false := beq_eq_false_iff_ne.2 ho.1
  have n1 : (o == 2) = false := beq_eq_false_iff_ne.2 ho.2.1
  have n2 : (o == 3) = false := beq_eq_false_iff_ne.2 ho.2.2.1
  have n3 : (o == 4) = false := beq_eq_false_iff_ne.2 ho.2.2.2.1
  have n4 : (o == 5) = false := beq_eq_false_iff_ne.2 ho.2.2.2.2.1
  have n5 : (o == 6) = false := beq_eq_false_iff_ne.2 ho.2.2.2.2.2.1
  have n6 : (o == 8) = false := beq_eq_false_iff_ne.2 ho.2.2.2.2.2.2.1
  have n7 : (o == 9) = false := beq_eq_false_iff_ne.2 ho.2.2.2.2.2.2.2
  clear ho
  cases ok <;>
  · go_wp2
    exact bodyPost_ret (results_tmp Try.results42 _ _ _) rfl ⟨none, rfl, Kd.N_nil _ _ _ _ _, H.hb⟩
end Go.Proofs.Ytjicfkmpgogppaa.An
