/-
  The document's Args, walked.
-/
import Derived.Test.YtjicfkmpgogppaaRvW
import Derived.Test.YtjicfkmpgogppaaH0
namespace Go.Proofs.Ytjicfkmpgogppaa.Ar
set_option linter.unusedVariables false
set_option linter.unusedSimpArgs false
open Go Go.RowKit Go.Proofs.Ytjicfkmpgogppaa.Plain Go.Proofs.Ytjicfkmpgogppaa.Vs Go.Proofs.Ytjicfkmpgogppaa.Sh Go.Proofs.Ytjicfkmpgogppaa.PA Go.Proofs.YtjicfkmpgogppaaW.PrintWords Go.Proofs.YtjicfkmpgogppaaW.PrintLast Go.Proofs.YtjicfkmpgogppaaW.PrintMore
open Go.Proofs.Ytjicfkmpgogppaa.Vw (strW numW allW nodeW B_ E0 foot_of)
set_option maxHeartbeats 400000 in
set_option maxRecDepth 100000 in
theorem num18 (n : Int) (w : World) : Calls Try.prog 72 #[.int .i64 n] w fun e w' => e = .returned (.agg #[.int .i64 0, .int .i64 n, .string E0, .slice none 0 0]) ∧ Bl w w' := by
  go_enter Try.func72, Try.ntmps72
  have hu := Try.underlying57
  have H := (St.start w).alloc #[.int .i64 0, .int .i64 0, .string E0, .slice none 0 0] 57
  go_wp2_with (go_at_call 67; go_loud ((with_reducible refine (Vw.num_walk _ _).mono ?_); rintro e wq ⟨rfl, hq⟩; have H1 := H.go hq; have c := H1.c 0 rfl; have q := H1.q 0 rfl))
  have H2 := (((H1.set 0 0 (.int .i64 0) rfl rfl).set 0 1 (.int .i64 n) rfl rfl).set 0 2 (.string E0) rfl rfl).set 0 3 (.slice none 0 0) rfl rfl
  refine bodyPost_ret (results_single Try.results72 (.cell w.heap.size 57 _ (0, 0) _ rfl (H2.mem 0 rfl) hu rfl (by kernel_rfl) .nil)) rfl ⟨rfl, H2.hb⟩
set_option maxHeartbeats 400000 in
set_option maxRecDepth 100000 in
theorem str18 (s : ByteArray) (w : World) : Calls Try.prog 71 #[.string s] w fun e w' => e = .returned (.agg #[.int .i64 1, .int .i64 0, .string s, .slice none 0 0]) ∧ Bl w w' := by
  go_enter Try.func71, Try.ntmps71
  have hu := Try.underlying57
  have H := (St.start w).alloc #[.int .i64 0, .int .i64 0, .string E0, .slice none 0 0] 57
  go_wp2_with (go_at_call 65; go_loud ((with_reducible refine (Vw.str_walk _ _).mono ?_); rintro e wq ⟨rfl, hq⟩; have H1 := H.go hq; have c := H1.c 0 rfl; have q := H1.q 0 rfl))
  have H2 := (((H1.set 0 0 (.int .i64 1) rfl rfl).set 0 1 (.int .i64 0) rfl rfl).set 0 2 (.string s) rfl rfl).set 0 3 (.slice none 0 0) rfl rfl
  refine bodyPost_ret (results_single Try.results71 (.cell w.heap.size 57 _ (0, 0) _ rfl (H2.mem 0 rfl) hu rfl (by kernel_rfl) .nil)) rfl ⟨rfl, H2.hb⟩
def cellW (x : W) : List Value := [.int .i64 x.f0, .int .i64 x.f1, .string x.f2, .slice none 0 0]
theorem fm_get : ∀ (xs : List W) (j : Nat) (x : W), xs[j]? = some x → ∀ i, i < 4 → (xs.flatMap cellW)[j * 4 + i]? = (cellW x)[i]?
  | [], j, x, h => by simp at h
  | y :: xs, 0, x, h => by
    obtain rfl : y = x := by simpa using h
    intro i hi
    rw [List.flatMap_cons, List.getElem?_append_left (by show 0 * 4 + i < 4; omega)]
    congr 1; omega
  | y :: xs, j + 1, x, h => by
    intro i hi
    rw [List.flatMap_cons, List.getElem?_append_right (by show 4 ≤ (j + 1) * 4 + i; omega), ← fm_get xs j x (by simpa using h) i hi]
    congr 1
    show (j + 1) * 4 + i - 4 = _
    omega
/-- a row of plain values in one block -/
theorem foot_flat {W1 : World} {g : Nat} (ok : Nat → Prop) (hg : ok g) (xs : List W) (hx : ∀ x ∈ xs, x.f3 = []) (hn : xs.length ≤ 1000000) (h : W1.heap[g]? = some (.cells (xs.flatMap cellW).toArray 57 (0, 0))) : Kd.F k57 W1 ok (some ⟨g, 0, none⟩) xs.length xs := by
  refine foot_of ok hg h xs hn (fun j x hj => ?_)
  have hf := hx x (List.mem_of_getElem? hj)
  have e := fm_get xs j x hj
  refine ⟨none, 0, by rw [hf]; exact Nat.le_refl _, by rw [hf]; exact Kd.F_nil _ _ _, ?_, ?_, ?_, ?_⟩
  · rw [List.getElem?_toArray]; exact e 0 (by omega)
  · rw [List.getElem?_toArray]; exact e 1 (by omega)
  · rw [List.getElem?_toArray]; exact e 2 (by omega)
  · rw [List.getElem?_toArray, hf]; exact e 3 (by omega)
def Post (w : World) (l : List W) (e : Ending) (w' : World) : Prop := ∃ v, e = .returned v ∧ Kd.V k57 57 w' w.heap.size (fun k => w.heap.size ≤ k) v l ∧ Below w.heap.size w w'
set_option maxHeartbeats 8000000 in
set_option maxRecDepth 100000 in
theorem args_0 (run node tri : Int) (ok : Bool) (per rol til cal : Int) (nm fn : ByteArray) (A : Option Addr) (c : Nat) (l : List B_) (w : World) :
    Calls Try.prog 43 #[.agg #[.int .i64 0, .int .i64 run, .int .i64 node, .int .i64 tri, .bool ok, .int .i64 per, .int .i64 rol, .int .i64 til, .int .i64 cal, .string nm, .string fn, .slice A l.length c]] w (Post w [numW run]) := by
  have hu := Try.underlying57
  have hu2 := Try.underlying109
  have H := (St.start w).alloc #[.int .i64 0, .int .i64 run, .int .i64 node, .int .i64 tri, .bool ok, .int .i64 per, .int .i64 rol, .int .i64 til, .int .i64 cal, .string nm, .string fn, .slice A l.length c] 109
  go_enter Try.func43, Try.ntmps43
  go_upto_region 1 with fail
  generalize w.alloc (.cells #[.int .i64 0, .int .i64 run, .int .i64 node, .int .i64 tri, .bool ok, .int .i64 per, .int .i64 rol, .int .i64 til, .int .i64 cal, .string nm, .string fn, .slice A l.length c] 109) = w0 at H ⊢
  obtain ⟨g0, hg0⟩ : ∃ g, w.heap.size = g := ⟨_, rfl⟩
  rw [hg0] at H ⊢
  have c0 := H.c 0 rfl
  go_upto_region 2 with (go_at_call 72; go_loud ((with_reducible refine (num18 _ _).mono ?_); rintro e wq ⟨rfl, hq⟩))
  have H1 := (H.go hq).alloc #[.int .i64 0, .int .i64 run, .string E0, .slice none 0 0] 57
  clear hq H c0
  generalize wq.alloc (.cells #[.int .i64 0, .int .i64 run, .string E0, .slice none 0 0] 57) = w1 at H1 ⊢
  generalize wq.heap.size = g1 at H1 ⊢
  have H := H1
  clear H1
  have c0 := H.c 1 rfl
  go_upto_region 3 with (go_at_call 71; go_loud ((with_reducible refine (str18 _ _).mono ?_); rintro e wq ⟨rfl, hq⟩))
  have H1 := (H.go hq).alloc #[.int .i64 1, .int .i64 0, .string nm, .slice none 0 0] 57
  clear hq H c0
  generalize wq.alloc (.cells #[.int .i64 1, .int .i64 0, .string nm, .slice none 0 0] 57) = w2 at H1 ⊢
  generalize wq.heap.size = g2 at H1 ⊢
  have H := H1
  clear H1
  have c0 := H.c 2 rfl
  go_upto_region 4 with (go_at_call 72; go_loud ((with_reducible refine (num18 _ _).mono ?_); rintro e wq ⟨rfl, hq⟩))
  have H1 := (H.go hq).alloc #[.int .i64 0, .int .i64 per, .string E0, .slice none 0 0] 57
  clear hq H c0
  generalize wq.alloc (.cells #[.int .i64 0, .int .i64 per, .string E0, .slice none 0 0] 57) = w3 at H1 ⊢
  generalize wq.heap.size = g3 at H1 ⊢
  have H := H1
  clear H1
  have c0 := H.c 3 rfl
  go_upto_region 5 with (go_at_call 72; go_loud ((with_reducible refine (num18 _ _).mono ?_); rintro e wq ⟨rfl, hq⟩))
  have H1 := (H.go hq).alloc #[.int .i64 0, .int .i64 cal, .string E0, .slice none 0 0] 57
  clear hq H c0
  generalize wq.alloc (.cells #[.int .i64 0, .int .i64 cal, .string E0, .slice none 0 0] 57) = w4 at H1 ⊢
  generalize wq.heap.size = g4 at H1 ⊢
  have H := H1
  clear H1
  have c0 := H.c 4 rfl
  go_upto_region 7 with fail
  clear c0
  have c0 := H.c 3 rfl
  have H1 := H.alloc #[.int .i64 0, .int .i64 run, .string E0, .slice none 0 0] 57
  go_wp2
  exact bodyPost_ret (results_tmp Try.results43 _ _ _) rfl ⟨_, rfl, ⟨_, 1, rfl, Nat.le_refl _, foot_flat (fun k => w.heap.size ≤ k) (H1.ge 0 rfl) [numW run] (by simp [numW, strW]) (by simp) (H1.mem 0 rfl)⟩, H1.hb⟩
set_option maxHeartbeats 8000000 in
set_option maxRecDepth 100000 in
theorem args_3 (run node tri : Int) (ok : Bool) (per rol til cal : Int) (nm fn : ByteArray) (A : Option Addr) (c : Nat) (l : List B_) (w : World) :
    Calls Try.prog 43 #[.agg #[.int .i64 3, .int .i64 run, .int .i64 node, .int .i64 tri, .bool ok, .int .i64 per, .int .i64 rol, .int .i64 til, .int .i64 cal, .string nm, .string fn, .slice A l.length c]] w (Post w [strW nm]) := by
  have hu := Try.underlying57
  have hu2 := Try.underlying109
  have H := (St.start w).alloc #[.int .i64 3, .int .i64 run, .int .i64 node, .int .i64 tri, .bool ok, .int .i64 per, .int .i64 rol, .int .i64 til, .int .i64 cal, .string nm, .string fn, .slice A l.length c] 109
  go_enter Try.func43, Try.ntmps43
  go_upto_region 1 with fail
  generalize w.alloc (.cells #[.int .i64 3, .int .i64 run, .int .i64 node, .int .i64 tri, .bool ok, .int .i64 per, .int .i64 rol, .int .i64 til, .int .i64 cal, .string nm, .string fn, .slice A l.length c] 109) = w0 at H ⊢
  obtain ⟨g0, hg0⟩ : ∃ g, w.heap.size = g := ⟨_, rfl⟩
  rw [hg0] at H ⊢
  have c0 := H.c 0 rfl
  go_upto_region 2 with (go_at_call 72; go_loud ((with_reducible refine (num18 _ _).mono ?_); rintro e wq ⟨rfl, hq⟩))
  have H1 := (H.go hq).alloc #[.int .i64 0, .int .i64 run, .string E0, .slice none 0 0] 57
  clear hq H c0
  generalize wq.alloc (.cells #[.int .i64 0, .int .i64 run, .string E0, .slice none 0 0] 57) = w1 at H1 ⊢
  generalize wq.heap.size = g1 at H1 ⊢
  have H := H1
  clear H1
  have c0 := H.c 1 rfl
  go_upto_region 3 with (go_at_call 71; go_loud ((with_reducible refine (str18 _ _).mono ?_); rintro e wq ⟨rfl, hq⟩))
  have H1 := (H.go hq).alloc #[.int .i64 1, .int .i64 0, .string nm, .slice none 0 0] 57
  clear hq H c0
  generalize wq.alloc (.cells #[.int .i64 1, .int .i64 0, .string nm, .slice none 0 0] 57) = w2 at H1 ⊢
  generalize wq.heap.size = g2 at H1 ⊢
  have H := H1
  clear H1
  have c0 := H.c 2 rfl
  go_upto_region 4 with (go_at_call 72; go_loud ((with_reducible refine (num18 _ _).mono ?_); rintro e wq ⟨rfl, hq⟩))
  have H1 := (H.go hq).alloc #[.int .i64 0, .int .i64 per, .string E0, .slice none 0 0] 57
  clear hq H c0
  generalize wq.alloc (.cells #[.int .i64 0, .int .i64 per, .string E0, .slice none 0 0] 57) = w3 at H1 ⊢
  generalize wq.heap.size = g3 at H1 ⊢
  have H := H1
  clear H1
  have c0 := H.c 3 rfl
  go_upto_region 5 with (go_at_call 72; go_loud ((with_reducible refine (num18 _ _).mono ?_); rintro e wq ⟨rfl, hq⟩))
  have H1 := (H.go hq).alloc #[.int .i64 0, .int .i64 cal, .string E0, .slice none 0 0] 57
  clear hq H c0
  generalize wq.alloc (.cells #[.int .i64 0, .int .i64 cal, .string E0, .slice none 0 0] 57) = w4 at H1 ⊢
  generalize wq.heap.size = g4 at H1 ⊢
  have H := H1
  clear H1
  have c0 := H.c 4 rfl
  go_upto_region 16 with fail
  clear c0
  have c0 := H.c 2 rfl
  have H1 := H.alloc #[.int .i64 1, .int .i64 0, .string nm, .slice none 0 0] 57
  go_wp2
  exact bodyPost_ret (results_tmp Try.results43 _ _ _) rfl ⟨_, rfl, ⟨_, 1, rfl, Nat.le_refl _, foot_flat (fun k => w.heap.size ≤ k) (H1.ge 0 rfl) [strW nm] (by simp [numW, strW]) (by simp) (H1.mem 0 rfl)⟩, H1.hb⟩
set_option maxHeartbeats 8000000 in
set_option maxRecDepth 100000 in
theorem args_5 (run node tri : Int) (ok : Bool) (per rol til cal : Int) (nm fn : ByteArray) (A : Option Addr) (c : Nat) (l : List B_) (w : World) :
    Calls Try.prog 43 #[.agg #[.int .i64 5, .int .i64 run, .int .i64 node, .int .i64 tri, .bool ok, .int .i64 per, .int .i64 rol, .int .i64 til, .int .i64 cal, .string nm, .string fn, .slice A l.length c]] w (Post w [numW per, numW til]) := by
  have hu := Try.underlying57
  have hu2 := Try.underlying109
  have H := (St.start w).alloc #[.int .i64 5, .int .i64 run, .int .i64 node, .int .i64 tri, .bool ok, .int .i64 per, .int .i64 rol, .int .i64 til, .int .i64 cal, .string nm, .string fn, .slice A l.length c] 109
  go_enter Try.func43, Try.ntmps43
  go_upto_region 1 with fail
  generalize w.alloc (.cells #[.int .i64 5, .int .i64 run, .int .i64 node, .int .i64 tri, .bool ok, .int .i64 per, .int .i64 rol, .int .i64 til, .int .i64 cal, .string nm, .string fn, .slice A l.length c] 109) = w0 at H ⊢
  obtain ⟨g0, hg0⟩ : ∃ g, w.heap.size = g := ⟨_, rfl⟩
  rw [hg0] at H ⊢
  have c0 := H.c 0 rfl
  go_upto_region 2 with (go_at_call 72; go_loud ((with_reducible refine (num18 _ _).mono ?_); rintro e wq ⟨rfl, hq⟩))
  have H1 := (H.go hq).alloc #[.int .i64 0, .int .i64 run, .string E0, .slice none 0 0] 57
  clear hq H c0
  generalize wq.alloc (.cells #[.int .i64 0, .int .i64 run, .string E0, .slice none 0 0] 57) = w1 at H1 ⊢
  generalize wq.heap.size = g1 at H1 ⊢
  have H := H1
  clear H1
  have c0 := H.c 1 rfl
  go_upto_region 3 with (go_at_call 71; go_loud ((with_reducible refine (str18 _ _).mono ?_); rintro e wq ⟨rfl, hq⟩))
  have H1 := (H.go hq).alloc #[.int .i64 1, .int .i64 0, .string nm, .slice none 0 0] 57
  clear hq H c0
  generalize wq.alloc (.cells #[.int .i64 1, .int .i64 0, .string nm, .slice none 0 0] 57) = w2 at H1 ⊢
  generalize wq.heap.size = g2 at H1 ⊢
  have H := H1
  clear H1
  have c0 := H.c 2 rfl
  go_upto_region 4 with (go_at_call 72; go_loud ((with_reducible refine (num18 _ _).mono ?_); rintro e wq ⟨rfl, hq⟩))
  have H1 := (H.go hq).alloc #[.int .i64 0, .int .i64 per, .string E0, .slice none 0 0] 57
  clear hq H c0
  generalize wq.alloc (.cells #[.int .i64 0, .int .i64 per, .string E0, .slice none 0 0] 57) = w3 at H1 ⊢
  generalize wq.heap.size = g3 at H1 ⊢
  have H := H1
  clear H1
  have c0 := H.c 3 rfl
  go_upto_region 5 with (go_at_call 72; go_loud ((with_reducible refine (num18 _ _).mono ?_); rintro e wq ⟨rfl, hq⟩))
  have H1 := (H.go hq).alloc #[.int .i64 0, .int .i64 cal, .string E0, .slice none 0 0] 57
  clear hq H c0
  generalize wq.alloc (.cells #[.int .i64 0, .int .i64 cal, .string E0, .slice none 0 0] 57) = w4 at H1 ⊢
  generalize wq.heap.size = g4 at H1 ⊢
  have H := H1
  clear H1
  have c0 := H.c 4 rfl
  go_upto_region 21 with fail
  clear c0
  have c0 := H.c 4 rfl
  go_upto_region 22 with (go_at_call 72; go_loud ((with_reducible refine (num18 _ _).mono ?_); rintro e wq ⟨rfl, hq⟩))
  have H1 := (H.go hq).alloc #[.int .i64 0, .int .i64 til, .string E0, .slice none 0 0] 57
  clear hq H c0
  generalize wq.alloc (.cells #[.int .i64 0, .int .i64 til, .string E0, .slice none 0 0] 57) = w5 at H1 ⊢
  generalize wq.heap.size = g5 at H1 ⊢
  have H := H1
  clear H1
  have c0 := H.c 2 rfl
  have c1 := H.c 0 rfl
  have H1 := H.alloc #[.int .i64 0, .int .i64 per, .string E0, .slice none 0 0, .int .i64 0, .int .i64 til, .string E0, .slice none 0 0] 57
  go_wp2
  exact bodyPost_ret (results_tmp Try.results43 _ _ _) rfl ⟨_, rfl, ⟨_, 2, rfl, Nat.le_refl _, foot_flat (fun k => w.heap.size ≤ k) (H1.ge 0 rfl) [numW per, numW til] (by simp [numW, strW]) (by simp) (H1.mem 0 rfl)⟩, H1.hb⟩
set_option maxHeartbeats 8000000 in
set_option maxRecDepth 100000 in
theorem args_6 (run node tri : Int) (ok : Bool) (per rol til cal : Int) (nm fn : ByteArray) (A : Option Addr) (c : Nat) (l : List B_) (w : World) :
    Calls Try.prog 43 #[.agg #[.int .i64 6, .int .i64 run, .int .i64 node, .int .i64 tri, .bool ok, .int .i64 per, .int .i64 rol, .int .i64 til, .int .i64 cal, .string nm, .string fn, .slice A l.length c]] w (Post w [numW per, numW rol]) := by
  have hu := Try.underlying57
  have hu2 := Try.underlying109
  have H := (St.start w).alloc #[.int .i64 6, .int .i64 run, .int .i64 node, .int .i64 tri, .bool ok, .int .i64 per, .int .i64 rol, .int .i64 til, .int .i64 cal, .string nm, .string fn, .slice A l.length c] 109
  go_enter Try.func43, Try.ntmps43
  go_upto_region 1 with fail
  generalize w.alloc (.cells #[.int .i64 6, .int .i64 run, .int .i64 node, .int .i64 tri, .bool ok, .int .i64 per, .int .i64 rol, .int .i64 til, .int .i64 cal, .string nm, .string fn, .slice A l.length c] 109) = w0 at H ⊢
  obtain ⟨g0, hg0⟩ : ∃ g, w.heap.size = g := ⟨_, rfl⟩
  rw [hg0] at H ⊢
  have c0 := H.c 0 rfl
  go_upto_region 2 with (go_at_call 72; go_loud ((with_reducible refine (num18 _ _).mono ?_); rintro e wq ⟨rfl, hq⟩))
  have H1 := (H.go hq).alloc #[.int .i64 0, .int .i64 run, .string E0, .slice none 0 0] 57
  clear hq H c0
  generalize wq.alloc (.cells #[.int .i64 0, .int .i64 run, .string E0, .slice none 0 0] 57) = w1 at H1 ⊢
  generalize wq.heap.size = g1 at H1 ⊢
  have H := H1
  clear H1
  have c0 := H.c 1 rfl
  go_upto_region 3 with (go_at_call 71; go_loud ((with_reducible refine (str18 _ _).mono ?_); rintro e wq ⟨rfl, hq⟩))
  have H1 := (H.go hq).alloc #[.int .i64 1, .int .i64 0, .string nm, .slice none 0 0] 57
  clear hq H c0
  generalize wq.alloc (.cells #[.int .i64 1, .int .i64 0, .string nm, .slice none 0 0] 57) = w2 at H1 ⊢
  generalize wq.heap.size = g2 at H1 ⊢
  have H := H1
  clear H1
  have c0 := H.c 2 rfl
  go_upto_region 4 with (go_at_call 72; go_loud ((with_reducible refine (num18 _ _).mono ?_); rintro e wq ⟨rfl, hq⟩))
  have H1 := (H.go hq).alloc #[.int .i64 0, .int .i64 per, .string E0, .slice none 0 0] 57
  clear hq H c0
  generalize wq.alloc (.cells #[.int .i64 0, .int .i64 per, .string E0, .slice none 0 0] 57) = w3 at H1 ⊢
  generalize wq.heap.size = g3 at H1 ⊢
  have H := H1
  clear H1
  have c0 := H.c 3 rfl
  go_upto_region 5 with (go_at_call 72; go_loud ((with_reducible refine (num18 _ _).mono ?_); rintro e wq ⟨rfl, hq⟩))
  have H1 := (H.go hq).alloc #[.int .i64 0, .int .i64 cal, .string E0, .slice none 0 0] 57
  clear hq H c0
  generalize wq.alloc (.cells #[.int .i64 0, .int .i64 cal, .string E0, .slice none 0 0] 57) = w4 at H1 ⊢
  generalize wq.heap.size = g4 at H1 ⊢
  have H := H1
  clear H1
  have c0 := H.c 4 rfl
  go_upto_region 24 with fail
  clear c0
  have c0 := H.c 4 rfl
  go_upto_region 25 with (go_at_call 72; go_loud ((with_reducible refine (num18 _ _).mono ?_); rintro e wq ⟨rfl, hq⟩))
  have H1 := (H.go hq).alloc #[.int .i64 0, .int .i64 rol, .string E0, .slice none 0 0] 57
  clear hq H c0
  generalize wq.alloc (.cells #[.int .i64 0, .int .i64 rol, .string E0, .slice none 0 0] 57) = w5 at H1 ⊢
  generalize wq.heap.size = g5 at H1 ⊢
  have H := H1
  clear H1
  have c0 := H.c 2 rfl
  have c1 := H.c 0 rfl
  have H1 := H.alloc #[.int .i64 0, .int .i64 per, .string E0, .slice none 0 0, .int .i64 0, .int .i64 rol, .string E0, .slice none 0 0] 57
  go_wp2
  exact bodyPost_ret (results_tmp Try.results43 _ _ _) rfl ⟨_, rfl, ⟨_, 2, rfl, Nat.le_refl _, foot_flat (fun k => w.heap.size ≤ k) (H1.ge 0 rfl) [numW per, numW rol] (by simp [numW, strW]) (by simp) (H1.mem 0 rfl)⟩, H1.hb⟩
set_option maxHeartbeats 8000000 in
set_option maxRecDepth 100000 in
theorem args_8 (run node tri : Int) (ok : Bool) (per rol til cal : Int) (nm fn : ByteArray) (A : Option Addr) (c : Nat) (l : List B_) (w : World) :
    Calls Try.prog 43 #[.agg #[.int .i64 8, .int .i64 run, .int .i64 node, .int .i64 tri, .bool ok, .int .i64 per, .int .i64 rol, .int .i64 til, .int .i64 cal, .string nm, .string fn, .slice A l.length c]] w (Post w [numW cal, strW nm]) := by
  have hu := Try.underlying57
  have hu2 := Try.underlying109
  have H := (St.start w).alloc #[.int .i64 8, .int .i64 run, .int .i64 node, .int .i64 tri, .bool ok, .int .i64 per, .int .i64 rol, .int .i64 til, .int .i64 cal, .string nm, .string fn, .slice A l.length c] 109
  go_enter Try.func43, Try.ntmps43
  go_upto_region 1 with fail
  generalize w.alloc (.cells #[.int .i64 8, .int .i64 run, .int .i64 node, .int .i64 tri, .bool ok, .int .i64 per, .int .i64 rol, .int .i64 til, .int .i64 cal, .string nm, .string fn, .slice A l.length c] 109) = w0 at H ⊢
  obtain ⟨g0, hg0⟩ : ∃ g, w.heap.size = g := ⟨_, rfl⟩
  rw [hg0] at H ⊢
  have c0 := H.c 0 rfl
  go_upto_region 2 with (go_at_call 72; go_loud ((with_reducible refine (num18 _ _).mono ?_); rintro e wq ⟨rfl, hq⟩))
  have H1 := (H.go hq).alloc #[.int .i64 0, .int .i64 run, .string E0, .slice none 0 0] 57
  clear hq H c0
  generalize wq.alloc (.cells #[.int .i64 0, .int .i64 run, .string E0, .slice none 0 0] 57) = w1 at H1 ⊢
  generalize wq.heap.size = g1 at H1 ⊢
  have H := H1
  clear H1
  have c0 := H.c 1 rfl
  go_upto_region 3 with (go_at_call 71; go_loud ((with_reducible refine (str18 _ _).mono ?_); rintro e wq ⟨rfl, hq⟩))
  have H1 := (H.go hq).alloc #[.int .i64 1, .int .i64 0, .string nm, .slice none 0 0] 57
  clear hq H c0
  generalize wq.alloc (.cells #[.int .i64 1, .int .i64 0, .string nm, .slice none 0 0] 57) = w2 at H1 ⊢
  generalize wq.heap.size = g2 at H1 ⊢
  have H := H1
  clear H1
  have c0 := H.c 2 rfl
  go_upto_region 4 with (go_at_call 72; go_loud ((with_reducible refine (num18 _ _).mono ?_); rintro e wq ⟨rfl, hq⟩))
  have H1 := (H.go hq).alloc #[.int .i64 0, .int .i64 per, .string E0, .slice none 0 0] 57
  clear hq H c0
  generalize wq.alloc (.cells #[.int .i64 0, .int .i64 per, .string E0, .slice none 0 0] 57) = w3 at H1 ⊢
  generalize wq.heap.size = g3 at H1 ⊢
  have H := H1
  clear H1
  have c0 := H.c 3 rfl
  go_upto_region 5 with (go_at_call 72; go_loud ((with_reducible refine (num18 _ _).mono ?_); rintro e wq ⟨rfl, hq⟩))
  have H1 := (H.go hq).alloc #[.int .i64 0, .int .i64 cal, .string E0, .slice none 0 0] 57
  clear hq H c0
  generalize wq.alloc (.cells #[.int .i64 0, .int .i64 cal, .string E0, .slice none 0 0] 57) = w4 at H1 ⊢
  generalize wq.heap.size = g4 at H1 ⊢
  have H := H1
  clear H1
  have c0 := H.c 4 rfl
  go_upto_region 28 with fail
  clear c0
  have c0 := H.c 0 rfl
  have c1 := H.c 2 rfl
  have H1 := H.alloc #[.int .i64 0, .int .i64 cal, .string E0, .slice none 0 0, .int .i64 1, .int .i64 0, .string nm, .slice none 0 0] 57
  go_wp2
  exact bodyPost_ret (results_tmp Try.results43 _ _ _) rfl ⟨_, rfl, ⟨_, 2, rfl, Nat.le_refl _, foot_flat (fun k => w.heap.size ≤ k) (H1.ge 0 rfl) [numW cal, strW nm] (by simp [numW, strW]) (by simp) (H1.mem 0 rfl)⟩, H1.hb⟩
set_option maxHeartbeats 8000000 in
set_option maxRecDepth 100000 in
theorem args_9 (run node tri : Int) (ok : Bool) (per rol til cal : Int) (nm fn : ByteArray) (A : Option Addr) (c : Nat) (l : List B_) (w : World) :
    Calls Try.prog 43 #[.agg #[.int .i64 9, .int .i64 run, .int .i64 node, .int .i64 tri, .bool ok, .int .i64 per, .int .i64 rol, .int .i64 til, .int .i64 cal, .string nm, .string fn, .slice A l.length c]] w (Post w [numW cal, strW nm]) := by
  have hu := Try.underlying57
  have hu2 := Try.underlying109
  have H := (St.start w).alloc #[.int .i64 9, .int .i64 run, .int .i64 node, .int .i64 tri, .bool ok, .int .i64 per, .int .i64 rol, .int .i64 til, .int .i64 cal, .string nm, .string fn, .slice A l.length c] 109
  go_enter Try.func43, Try.ntmps43
  go_upto_region 1 with fail
  generalize w.alloc (.cells #[.int .i64 9, .int .i64 run, .int .i64 node, .int .i64 tri, .bool ok, .int .i64 per, .int .i64 rol, .int .i64 til, .int .i64 cal, .string nm, .string fn, .slice A l.length c] 109) = w0 at H ⊢
  obtain ⟨g0, hg0⟩ : ∃ g, w.heap.size = g := ⟨_, rfl⟩
  rw [hg0] at H ⊢
  have c0 := H.c 0 rfl
  go_upto_region 2 with (go_at_call 72; go_loud ((with_reducible refine (num18 _ _).mono ?_); rintro e wq ⟨rfl, hq⟩))
  have H1 := (H.go hq).alloc #[.int .i64 0, .int .i64 run, .string E0, .slice none 0 0] 57
  clear hq H c0
  generalize wq.alloc (.cells #[.int .i64 0, .int .i64 run, .string E0, .slice none 0 0] 57) = w1 at H1 ⊢
  generalize wq.heap.size = g1 at H1 ⊢
  have H := H1
  clear H1
  have c0 := H.c 1 rfl
  go_upto_region 3 with (go_at_call 71; go_loud ((with_reducible refine (str18 _ _).mono ?_); rintro e wq ⟨rfl, hq⟩))
  have H1 := (H.go hq).alloc #[.int .i64 1, .int .i64 0, .string nm, .slice none 0 0] 57
  clear hq H c0
  generalize wq.alloc (.cells #[.int .i64 1, .int .i64 0, .string nm, .slice none 0 0] 57) = w2 at H1 ⊢
  generalize wq.heap.size = g2 at H1 ⊢
  have H := H1
  clear H1
  have c0 := H.c 2 rfl
  go_upto_region 4 with (go_at_call 72; go_loud ((with_reducible refine (num18 _ _).mono ?_); rintro e wq ⟨rfl, hq⟩))
  have H1 := (H.go hq).alloc #[.int .i64 0, .int .i64 per, .string E0, .slice none 0 0] 57
  clear hq H c0
  generalize wq.alloc (.cells #[.int .i64 0, .int .i64 per, .string E0, .slice none 0 0] 57) = w3 at H1 ⊢
  generalize wq.heap.size = g3 at H1 ⊢
  have H := H1
  clear H1
  have c0 := H.c 3 rfl
  go_upto_region 5 with (go_at_call 72; go_loud ((with_reducible refine (num18 _ _).mono ?_); rintro e wq ⟨rfl, hq⟩))
  have H1 := (H.go hq).alloc #[.int .i64 0, .int .i64 cal, .string E0, .slice none 0 0] 57
  clear hq H c0
  generalize wq.alloc (.cells #[.int .i64 0, .int .i64 cal, .string E0, .slice none 0 0] 57) = w4 at H1 ⊢
  generalize wq.heap.size = g4 at H1 ⊢
  have H := H1
  clear H1
  have c0 := H.c 4 rfl
  go_upto_region 28 with fail
  clear c0
  have c0 := H.c 0 rfl
  have c1 := H.c 2 rfl
  have H1 := H.alloc #[.int .i64 0, .int .i64 cal, .string E0, .slice none 0 0, .int .i64 1, .int .i64 0, .string nm, .slice none 0 0] 57
  go_wp2
  exact bodyPost_ret (results_tmp Try.results43 _ _ _) rfl ⟨_, rfl, ⟨_, 2, rfl, Nat.le_refl _, foot_flat (fun k => w.heap.size ≤ k) (H1.ge 0 rfl) [numW cal, strW nm] (by simp [numW, strW]) (by simp) (H1.mem 0 rfl)⟩, H1.hb⟩
set_option maxHeartbeats 8000000 in
set_option maxRecDepth 100000 in
theorem args_2t (run node tri : Int) (per rol til cal : Int) (nm fn : ByteArray) (A : Option Addr) (c : Nat) (l : List B_) (w : World) :
    Calls Try.prog 43 #[.agg #[.int .i64 2, .int .i64 run, .int .i64 node, .int .i64 tri, .bool true, .int .i64 per, .int .i64 rol, .int .i64 til, .int .i64 cal, .string nm, .string fn, .slice A l.length c]] w (Post w [numW run, numW node, numW tri, numW 1]) := by
  have hu := Try.underlying57
  have hu2 := Try.underlying109
  have H := (St.start w).alloc #[.int .i64 2, .int .i64 run, .int .i64 node, .int .i64 tri, .bool true, .int .i64 per, .int .i64 rol, .int .i64 til, .int .i64 cal, .string nm, .string fn, .slice A l.length c] 109
  go_enter Try.func43, Try.ntmps43
  go_upto_region 1 with fail
  generalize w.alloc (.cells #[.int .i64 2, .int .i64 run, .int .i64 node, .int .i64 tri, .bool true, .int .i64 per, .int .i64 rol, .int .i64 til, .int .i64 cal, .string nm, .string fn, .slice A l.length c] 109) = w0 at H ⊢
  obtain ⟨g0, hg0⟩ : ∃ g, w.heap.size = g := ⟨_, rfl⟩
  rw [hg0] at H ⊢
  have c0 := H.c 0 rfl
  go_upto_region 2 with (go_at_call 72; go_loud ((with_reducible refine (num18 _ _).mono ?_); rintro e wq ⟨rfl, hq⟩))
  have H1 := (H.go hq).alloc #[.int .i64 0, .int .i64 run, .string E0, .slice none 0 0] 57
  clear hq H c0
  generalize wq.alloc (.cells #[.int .i64 0, .int .i64 run, .string E0, .slice none 0 0] 57) = w1 at H1 ⊢
  generalize wq.heap.size = g1 at H1 ⊢
  have H := H1
  clear H1
  have c0 := H.c 1 rfl
  go_upto_region 3 with (go_at_call 71; go_loud ((with_reducible refine (str18 _ _).mono ?_); rintro e wq ⟨rfl, hq⟩))
  have H1 := (H.go hq).alloc #[.int .i64 1, .int .i64 0, .string nm, .slice none 0 0] 57
  clear hq H c0
  generalize wq.alloc (.cells #[.int .i64 1, .int .i64 0, .string nm, .slice none 0 0] 57) = w2 at H1 ⊢
  generalize wq.heap.size = g2 at H1 ⊢
  have H := H1
  clear H1
  have c0 := H.c 2 rfl
  go_upto_region 4 with (go_at_call 72; go_loud ((with_reducible refine (num18 _ _).mono ?_); rintro e wq ⟨rfl, hq⟩))
  have H1 := (H.go hq).alloc #[.int .i64 0, .int .i64 per, .string E0, .slice none 0 0] 57
  clear hq H c0
  generalize wq.alloc (.cells #[.int .i64 0, .int .i64 per, .string E0, .slice none 0 0] 57) = w3 at H1 ⊢
  generalize wq.heap.size = g3 at H1 ⊢
  have H := H1
  clear H1
  have c0 := H.c 3 rfl
  go_upto_region 5 with (go_at_call 72; go_loud ((with_reducible refine (num18 _ _).mono ?_); rintro e wq ⟨rfl, hq⟩))
  have H1 := (H.go hq).alloc #[.int .i64 0, .int .i64 cal, .string E0, .slice none 0 0] 57
  clear hq H c0
  generalize wq.alloc (.cells #[.int .i64 0, .int .i64 cal, .string E0, .slice none 0 0] 57) = w4 at H1 ⊢
  generalize wq.heap.size = g4 at H1 ⊢
  have H := H1
  clear H1
  have c0 := H.c 4 rfl
  go_upto_region 9 with fail
  clear c0
  have c0 := H.c 4 rfl
  go_upto_region 10 with (go_at_call 72; go_loud ((with_reducible refine (num18 _ _).mono ?_); rintro e wq ⟨rfl, hq⟩))
  have H1 := (H.go hq).alloc #[.int .i64 0, .int .i64 node, .string E0, .slice none 0 0] 57
  clear hq H c0
  generalize wq.alloc (.cells #[.int .i64 0, .int .i64 node, .string E0, .slice none 0 0] 57) = w5 at H1 ⊢
  generalize wq.heap.size = g5 at H1 ⊢
  have H := H1
  clear H1
  have c0 := H.c 5 rfl
  go_upto_region 11 with (go_at_call 72; go_loud ((with_reducible refine (num18 _ _).mono ?_); rintro e wq ⟨rfl, hq⟩))
  have H1 := (H.go hq).alloc #[.int .i64 0, .int .i64 tri, .string E0, .slice none 0 0] 57
  clear hq H c0
  generalize wq.alloc (.cells #[.int .i64 0, .int .i64 tri, .string E0, .slice none 0 0] 57) = w6 at H1 ⊢
  generalize wq.heap.size = g6 at H1 ⊢
  have H := H1
  clear H1
  go_upto_region 12 with (go_at_call 72; go_loud ((with_reducible refine (num18 _ _).mono ?_); rintro e wq ⟨rfl, hq⟩))
  have H1 := (H.go hq).alloc #[.int .i64 0, .int .i64 0, .string E0, .slice none 0 0] 57
  clear hq H
  generalize wq.alloc (.cells #[.int .i64 0, .int .i64 0, .string E0, .slice none 0 0] 57) = w7 at H1 ⊢
  generalize wq.heap.size = g7 at H1 ⊢
  have H := H1
  clear H1
  have c0 := H.c 7 rfl
  go_upto_region 13 with fail
  clear c0
  go_upto_region 14 with (go_at_call 72; go_loud ((with_reducible refine (num18 _ _).mono ?_); rintro e wq ⟨rfl, hq⟩; have H1 := H.go hq; have cc := H1.c 0 rfl; have qq := H1.q 0 rfl))
  replace H := (((H1.set 0 0 (.int .i64 0) rfl rfl).set 0 1 (.int .i64 1) rfl rfl).set 0 2 (.string E0) rfl rfl).set 0 3 (.slice none 0 0) rfl (L' := [(g7, #[.int .i64 0, .int .i64 1, .string E0, .slice none 0 0], 57), (g6, #[.int .i64 0, .int .i64 tri, .string E0, .slice none 0 0], 57), (g5, #[.int .i64 0, .int .i64 node, .string E0, .slice none 0 0], 57), (g4, #[.int .i64 0, .int .i64 cal, .string E0, .slice none 0 0], 57), (g3, #[.int .i64 0, .int .i64 per, .string E0, .slice none 0 0], 57), (g2, #[.int .i64 1, .int .i64 0, .string nm, .slice none 0 0], 57), (g1, #[.int .i64 0, .int .i64 run, .string E0, .slice none 0 0], 57), (g0, #[.int .i64 2, .int .i64 run, .int .i64 node, .int .i64 tri, .bool true, .int .i64 per, .int .i64 rol, .int .i64 til, .int .i64 cal, .string nm, .string fn, .slice A l.length c], 109)]) rfl
  clear H1 cc qq hq
  generalize (((wq.setCell ⟨g7, 0, none⟩ (.int .i64 0)).setCell ⟨g7, 1, none⟩ (.int .i64 1)).setCell ⟨g7, 2, none⟩ (.string E0)).setCell ⟨g7, 3, none⟩ (.slice none 0 0) = w20 at H ⊢
  have c0 := H.c 6 rfl
  have c1 := H.c 2 rfl
  have c2 := H.c 1 rfl
  have c3 := H.c 0 rfl
  have H1 := H.alloc #[.int .i64 0, .int .i64 run, .string E0, .slice none 0 0, .int .i64 0, .int .i64 node, .string E0, .slice none 0 0, .int .i64 0, .int .i64 tri, .string E0, .slice none 0 0, .int .i64 0, .int .i64 1, .string E0, .slice none 0 0] 57
  go_wp2
  exact bodyPost_ret (results_tmp Try.results43 _ _ _) rfl ⟨_, rfl, ⟨_, 4, rfl, Nat.le_refl _, foot_flat (fun k => w.heap.size ≤ k) (H1.ge 0 rfl) [numW run, numW node, numW tri, numW 1] (by simp [numW, strW]) (by simp) (H1.mem 0 rfl)⟩, H1.hb⟩
set_option maxHeartbeats 8000000 in
set_option maxRecDepth 100000 in
theorem args_2f (run node tri : Int) (per rol til cal : Int) (nm fn : ByteArray) (A : Option Addr) (c : Nat) (l : List B_) (w : World) :
    Calls Try.prog 43 #[.agg #[.int .i64 2, .int .i64 run, .int .i64 node, .int .i64 tri, .bool false, .int .i64 per, .int .i64 rol, .int .i64 til, .int .i64 cal, .string nm, .string fn, .slice A l.length c]] w (Post w [numW run, numW node, numW tri, numW 0]) := by
  have hu := Try.underlying57
  have hu2 := Try.underlying109
  have H := (St.start w).alloc #[.int .i64 2, .int .i64 run, .int .i64 node, .int .i64 tri, .bool false, .int .i64 per, .int .i64 rol, .int .i64 til, .int .i64 cal, .string nm, .string fn, .slice A l.length c] 109
  go_enter Try.func43, Try.ntmps43
  go_upto_region 1 with fail
  generalize w.alloc (.cells #[.int .i64 2, .int .i64 run, .int .i64 node, .int .i64 tri, .bool false, .int .i64 per, .int .i64 rol, .int .i64 til, .int .i64 cal, .string nm, .string fn, .slice A l.length c] 109) = w0 at H ⊢
  obtain ⟨g0, hg0⟩ : ∃ g, w.heap.size = g := ⟨_, rfl⟩
  rw [hg0] at H ⊢
  have c0 := H.c 0 rfl
  go_upto_region 2 with (go_at_call 72; go_loud ((with_reducible refine (num18 _ _).mono ?_); rintro e wq ⟨rfl, hq⟩))
  have H1 := (H.go hq).alloc #[.int .i64 0, .int .i64 run, .string E0, .slice none 0 0] 57
  clear hq H c0
  generalize wq.alloc (.cells #[.int .i64 0, .int .i64 run, .string E0, .slice none 0 0] 57) = w1 at H1 ⊢
  generalize wq.heap.size = g1 at H1 ⊢
  have H := H1
  clear H1
  have c0 := H.c 1 rfl
  go_upto_region 3 with (go_at_call 71; go_loud ((with_reducible refine (str18 _ _).mono ?_); rintro e wq ⟨rfl, hq⟩))
  have H1 := (H.go hq).alloc #[.int .i64 1, .int .i64 0, .string nm, .slice none 0 0] 57
  clear hq H c0
  generalize wq.alloc (.cells #[.int .i64 1, .int .i64 0, .string nm, .slice none 0 0] 57) = w2 at H1 ⊢
  generalize wq.heap.size = g2 at H1 ⊢
  have H := H1
  clear H1
  have c0 := H.c 2 rfl
  go_upto_region 4 with (go_at_call 72; go_loud ((with_reducible refine (num18 _ _).mono ?_); rintro e wq ⟨rfl, hq⟩))
  have H1 := (H.go hq).alloc #[.int .i64 0, .int .i64 per, .string E0, .slice none 0 0] 57
  clear hq H c0
  generalize wq.alloc (.cells #[.int .i64 0, .int .i64 per, .string E0, .slice none 0 0] 57) = w3 at H1 ⊢
  generalize wq.heap.size = g3 at H1 ⊢
  have H := H1
  clear H1
  have c0 := H.c 3 rfl
  go_upto_region 5 with (go_at_call 72; go_loud ((with_reducible refine (num18 _ _).mono ?_); rintro e wq ⟨rfl, hq⟩))
  have H1 := (H.go hq).alloc #[.int .i64 0, .int .i64 cal, .string E0, .slice none 0 0] 57
  clear hq H c0
  generalize wq.alloc (.cells #[.int .i64 0, .int .i64 cal, .string E0, .slice none 0 0] 57) = w4 at H1 ⊢
  generalize wq.heap.size = g4 at H1 ⊢
  have H := H1
  clear H1
  have c0 := H.c 4 rfl
  go_upto_region 9 with fail
  clear c0
  have c0 := H.c 4 rfl
  go_upto_region 10 with (go_at_call 72; go_loud ((with_reducible refine (num18 _ _).mono ?_); rintro e wq ⟨rfl, hq⟩))
  have H1 := (H.go hq).alloc #[.int .i64 0, .int .i64 node, .string E0, .slice none 0 0] 57
  clear hq H c0
  generalize wq.alloc (.cells #[.int .i64 0, .int .i64 node, .string E0, .slice none 0 0] 57) = w5 at H1 ⊢
  generalize wq.heap.size = g5 at H1 ⊢
  have H := H1
  clear H1
  have c0 := H.c 5 rfl
  go_upto_region 11 with (go_at_call 72; go_loud ((with_reducible refine (num18 _ _).mono ?_); rintro e wq ⟨rfl, hq⟩))
  have H1 := (H.go hq).alloc #[.int .i64 0, .int .i64 tri, .string E0, .slice none 0 0] 57
  clear hq H c0
  generalize wq.alloc (.cells #[.int .i64 0, .int .i64 tri, .string E0, .slice none 0 0] 57) = w6 at H1 ⊢
  generalize wq.heap.size = g6 at H1 ⊢
  have H := H1
  clear H1
  go_upto_region 12 with (go_at_call 72; go_loud ((with_reducible refine (num18 _ _).mono ?_); rintro e wq ⟨rfl, hq⟩))
  have H1 := (H.go hq).alloc #[.int .i64 0, .int .i64 0, .string E0, .slice none 0 0] 57
  clear hq H
  generalize wq.alloc (.cells #[.int .i64 0, .int .i64 0, .string E0, .slice none 0 0] 57) = w7 at H1 ⊢
  generalize wq.heap.size = g7 at H1 ⊢
  have H := H1
  clear H1
  have c0 := H.c 7 rfl
  go_upto_region 14 with fail
  clear c0
  have c0 := H.c 6 rfl
  have c1 := H.c 2 rfl
  have c2 := H.c 1 rfl
  have c3 := H.c 0 rfl
  have H1 := H.alloc #[.int .i64 0, .int .i64 run, .string E0, .slice none 0 0, .int .i64 0, .int .i64 node, .string E0, .slice none 0 0, .int .i64 0, .int .i64 tri, .string E0, .slice none 0 0, .int .i64 0, .int .i64 0, .string E0, .slice none 0 0] 57
  go_wp2
  exact bodyPost_ret (results_tmp Try.results43 _ _ _) rfl ⟨_, rfl, ⟨_, 4, rfl, Nat.le_refl _, foot_flat (fun k => w.heap.size ≤ k) (H1.ge 0 rfl) [numW run, numW node, numW tri, numW 0] (by simp [numW, strW]) (by simp) (H1.mem 0 rfl)⟩, H1.hb⟩
set_option maxHeartbeats 8000000 in
set_option maxRecDepth 100000 in
theorem args_4 (run node tri : Int) (ok : Bool) (per rol til cal : Int) (nm fn : ByteArray) (A : Option Addr) (c : Nat) (l : List B_) (w : World) (hC : Kd.C k125 w A l.length l) (hl : l.length ≤ 1000000) (hd : ∀ x ∈ l, x.f1.length ≤ 1000000) :
    Calls Try.prog 43 #[.agg #[.int .i64 4, .int .i64 run, .int .i64 node, .int .i64 tri, .bool ok, .int .i64 per, .int .i64 rol, .int .i64 til, .int .i64 cal, .string nm, .string fn, .slice A l.length c]] w (Post w [allW [strW fn, allW (l.map nodeW)]]) := by
  have HC := Aside0.mk hC
  have HD := Aside0.mk hd
  clear hC hd
  have hu := Try.underlying57
  have hu2 := Try.underlying109
  have H := (St.start w).alloc #[.int .i64 4, .int .i64 run, .int .i64 node, .int .i64 tri, .bool ok, .int .i64 per, .int .i64 rol, .int .i64 til, .int .i64 cal, .string nm, .string fn, .slice A l.length c] 109
  go_enter Try.func43, Try.ntmps43
  go_upto_region 1 with fail
  generalize w.alloc (.cells #[.int .i64 4, .int .i64 run, .int .i64 node, .int .i64 tri, .bool ok, .int .i64 per, .int .i64 rol, .int .i64 til, .int .i64 cal, .string nm, .string fn, .slice A l.length c] 109) = w0 at H ⊢
  obtain ⟨g0, hg0⟩ : ∃ g, w.heap.size = g := ⟨_, rfl⟩
  rw [hg0] at H ⊢
  have c0 := H.c 0 rfl
  go_upto_region 2 with (go_at_call 72; go_loud ((with_reducible refine (num18 _ _).mono ?_); rintro e wq ⟨rfl, hq⟩))
  have H1 := (H.go hq).alloc #[.int .i64 0, .int .i64 run, .string E0, .slice none 0 0] 57
  clear hq H c0
  generalize wq.alloc (.cells #[.int .i64 0, .int .i64 run, .string E0, .slice none 0 0] 57) = w1 at H1 ⊢
  generalize wq.heap.size = g1 at H1 ⊢
  have H := H1
  clear H1
  have c0 := H.c 1 rfl
  go_upto_region 3 with (go_at_call 71; go_loud ((with_reducible refine (str18 _ _).mono ?_); rintro e wq ⟨rfl, hq⟩))
  have H1 := (H.go hq).alloc #[.int .i64 1, .int .i64 0, .string nm, .slice none 0 0] 57
  clear hq H c0
  generalize wq.alloc (.cells #[.int .i64 1, .int .i64 0, .string nm, .slice none 0 0] 57) = w2 at H1 ⊢
  generalize wq.heap.size = g2 at H1 ⊢
  have H := H1
  clear H1
  have c0 := H.c 2 rfl
  go_upto_region 4 with (go_at_call 72; go_loud ((with_reducible refine (num18 _ _).mono ?_); rintro e wq ⟨rfl, hq⟩))
  have H1 := (H.go hq).alloc #[.int .i64 0, .int .i64 per, .string E0, .slice none 0 0] 57
  clear hq H c0
  generalize wq.alloc (.cells #[.int .i64 0, .int .i64 per, .string E0, .slice none 0 0] 57) = w3 at H1 ⊢
  generalize wq.heap.size = g3 at H1 ⊢
  have H := H1
  clear H1
  have c0 := H.c 3 rfl
  go_upto_region 5 with (go_at_call 72; go_loud ((with_reducible refine (num18 _ _).mono ?_); rintro e wq ⟨rfl, hq⟩))
  have H1 := (H.go hq).alloc #[.int .i64 0, .int .i64 cal, .string E0, .slice none 0 0] 57
  clear hq H c0
  generalize wq.alloc (.cells #[.int .i64 0, .int .i64 cal, .string E0, .slice none 0 0] 57) = w4 at H1 ⊢
  generalize wq.heap.size = g4 at H1 ⊢
  have H := H1
  clear H1
  have c0 := H.c 4 rfl
  go_upto_region 18 with fail
  clear c0
  have c0 := H.c 4 rfl
  have HV := Aside0.mk (Vw.value_walk fn l A c w4 (Kd.C_below HC.out H.hb) hl HD.out)
  go_upto_region 19 with (go_at_call 26; go_loud ((with_reducible refine HV.out.mono ?_); rintro e wq ⟨u, rfl, ⟨A5, c5, rfl, l5, hF5⟩, hq⟩; have HF := Aside0.mk hF5; have HL := Aside0.mk l5; clear hF5 l5))
  have H1 := (H.go hq).alloc #[.int .i64 2, .int .i64 0, .string E0, .slice A5 2 c5] 57
  have hF := Kd.F_alloc HF.out (.cells #[.int .i64 2, .int .i64 0, .string E0, .slice A5 2 c5] 57)
  have hs := H.hb.size
  clear hq H c0 HV HF
  generalize wq.alloc (.cells #[.int .i64 2, .int .i64 0, .string E0, .slice A5 2 c5] 57) = w5 at H1 hF ⊢
  generalize wq.heap.size = g5 at H1 ⊢
  have HF := Aside0.mk hF
  clear hF
  have c0 := H1.c 0 rfl
  have H2 := H1.alloc #[.int .i64 2, .int .i64 0, .string E0, .slice A5 2 c5] 57
  go_wp2
  have hF2 := Kd.F_alloc HF.out (.cells #[.int .i64 2, .int .i64 0, .string E0, .slice A5 2 c5] 57)
  have hFX := foot_of (fun k => w.heap.size ≤ k) (H2.ge 0 rfl) (H2.mem 0 rfl) [allW [strW fn, allW (l.map nodeW)]] (by simp) (fun j x hj => by
    match j, hj with
    | 0, hj => obtain rfl : allW [strW fn, allW (l.map nodeW)] = x := by simpa using hj
               exact ⟨A5, c5, HL.out, Kd.F_mono hF2 (fun k hk => Nat.le_trans hs hk), rfl, rfl, rfl, rfl⟩
    | j + 1, hj => simp at hj)
  exact bodyPost_ret (results_tmp Try.results43 _ _ _) rfl ⟨_, rfl, ⟨_, 1, rfl, Nat.le_refl _, hFX⟩, H2.hb⟩
set_option maxHeartbeats 8000000 in
set_option maxRecDepth 100000 in
theorem args_n (run node tri : Int) (ok : Bool) (per rol til cal : Int) (nm fn : ByteArray) (A : Option Addr) (c : Nat) (l : List B_) (w : World) (o : Int) (ho : o ≠ 0 ∧ o ≠ 2 ∧ o ≠ 3 ∧ o ≠ 4 ∧ o ≠ 5 ∧ o ≠ 6 ∧ o ≠ 8 ∧ o ≠ 9) :
    Calls Try.prog 43 #[.agg #[.int .i64 o, .int .i64 run, .int .i64 node, .int .i64 tri, .bool ok, .int .i64 per, .int .i64 rol, .int .i64 til, .int .i64 cal, .string nm, .string fn, .slice A l.length c]] w (Post w []) := by
  have hu := Try.underlying57
  have hu2 := Try.underlying109
  have H := (St.start w).alloc #[.int .i64 o, .int .i64 run, .int .i64 node, .int .i64 tri, .bool ok, .int .i64 per, .int .i64 rol, .int .i64 til, .int .i64 cal, .string nm, .string fn, .slice A l.length c] 109
  go_enter Try.func43, Try.ntmps43
  go_upto_region 1 with fail
  generalize w.alloc (.cells #[.int .i64 o, .int .i64 run, .int .i64 node, .int .i64 tri, .bool ok, .int .i64 per, .int .i64 rol, .int .i64 til, .int .i64 cal, .string nm, .string fn, .slice A l.length c] 109) = w0 at H ⊢
  obtain ⟨g0, hg0⟩ : ∃ g, w.heap.size = g := ⟨_, rfl⟩
  rw [hg0] at H ⊢
  have c0 := H.c 0 rfl
  go_upto_region 2 with (go_at_call 72; go_loud ((with_reducible refine (num18 _ _).mono ?_); rintro e wq ⟨rfl, hq⟩))
  have H1 := (H.go hq).alloc #[.int .i64 0, .int .i64 run, .string E0, .slice none 0 0] 57
  clear hq H c0
  generalize wq.alloc (.cells #[.int .i64 0, .int .i64 run, .string E0, .slice none 0 0] 57) = w1 at H1 ⊢
  generalize wq.heap.size = g1 at H1 ⊢
  have H := H1
  clear H1
  have c0 := H.c 1 rfl
  go_upto_region 3 with (go_at_call 71; go_loud ((with_reducible refine (str18 _ _).mono ?_); rintro e wq ⟨rfl, hq⟩))
  have H1 := (H.go hq).alloc #[.int .i64 1, .int .i64 0, .string nm, .slice none 0 0] 57
  clear hq H c0
  generalize wq.alloc (.cells #[.int .i64 1, .int .i64 0, .string nm, .slice none 0 0] 57) = w2 at H1 ⊢
  generalize wq.heap.size = g2 at H1 ⊢
  have H := H1
  clear H1
  have c0 := H.c 2 rfl
  go_upto_region 4 with (go_at_call 72; go_loud ((with_reducible refine (num18 _ _).mono ?_); rintro e wq ⟨rfl, hq⟩))
  have H1 := (H.go hq).alloc #[.int .i64 0, .int .i64 per, .string E0, .slice none 0 0] 57
  clear hq H c0
  generalize wq.alloc (.cells #[.int .i64 0, .int .i64 per, .string E0, .slice none 0 0] 57) = w3 at H1 ⊢
  generalize wq.heap.size = g3 at H1 ⊢
  have H := H1
  clear H1
  have c0 := H.c 3 rfl
  go_upto_region 5 with (go_at_call 72; go_loud ((with_reducible refine (num18 _ _).mono ?_); rintro e wq ⟨rfl, hq⟩))
  have H1 := (H.go hq).alloc #[.int .i64 0, .int .i64 cal, .string E0, .slice none 0 0] 57
  clear hq H c0
  generalize wq.alloc (.cells #[.int .i64 0, .int .i64 cal, .string E0, .slice none 0 0] 57) = w4 at H1 ⊢
  generalize wq.heap.size = g4 at H1 ⊢
  have H := H1
  clear H1
  have n0 : (o == 0) = false := beq_eq_false_iff_ne.2 ho.1
  have n1 : (o == 2) = false := beq_eq_false_iff_ne.2 ho.2.1
  have n2 : (o == 3) = false := beq_eq_false_iff_ne.2 ho.2.2.1
  have n3 : (o == 4) = false := beq_eq_false_iff_ne.2 ho.2.2.2.1
  have n4 : (o == 5) = false := beq_eq_false_iff_ne.2 ho.2.2.2.2.1
  have n5 : (o == 6) = false := beq_eq_false_iff_ne.2 ho.2.2.2.2.2.1
  have n6 : (o == 8) = false := beq_eq_false_iff_ne.2 ho.2.2.2.2.2.2.1
  have n7 : (o == 9) = false := beq_eq_false_iff_ne.2 ho.2.2.2.2.2.2.2
  clear ho
  have c0 := H.c 4 rfl
  go_wp2
  exact bodyPost_ret (results_tmp Try.results43 _ _ _) rfl ⟨_, rfl, Kd.V_nil _ _ _ _ _, H.hb⟩
end Go.Proofs.Ytjicfkmpgogppaa.Ar
