/-
  PackMakes: pack.All over a row of two values, told by its cells; the law walked by hand.
-/
import Derived.Test.YtpbnfnaebdmagaaPXx1
import Derived.Test.YtpbnfnaebdmagaaPXx4
import Derived.Test.YtpbnfnaebdmagaaPXx5
import Derived.Test.YtpbnfnaebdmagaaBu
import Derived.Test.YtpbnfnaebdmagaaWk
import Derived.LoopTactic
import Derived.Outline
import Derived.WalkSmall
namespace Go.Proofs.Ytpbnfnaebdmagaa.Mk
set_option linter.unusedVariables false
set_option linter.unusedSimpArgs false
open Go Go.RowKit Go.Proofs.Ytpbnfnaebdmagaa.Plain Go.Proofs.Ytpbnfnaebdmagaa.PX Go.Proofs.YtpbnfnaebdmagaaW.PrintWords Go.Proofs.YtpbnfnaebdmagaaW.PrintLast Go.Proofs.YtpbnfnaebdmagaaW.PrintMore
def one4 (l : List Value) : Prop := l.length = 4 ∧ ∀ u ∈ l, u.oneCell' = true
theorem one4_of (x y : Int) (s : ByteArray) (A : Option Addr) (n c : Nat) : one4 [.int .i64 x, .int .i64 y, .string s, .slice A n c] := ⟨rfl, fun u hu => by simp only [List.mem_cons, List.not_mem_nil, or_false] at hu; rcases hu with rfl | rfl | rfl | rfl <;> rfl⟩
theorem raw_cells {w : World} {g : Nat} {a0 a1 a2 a3 b0 b1 b2 b3 : Value} (h : (Kd.raw 4).C w (some ⟨g, 0, none⟩) 2 [[a0, a1, a2, a3], [b0, b1, b2, b3]]) : w.cell? ⟨g, 0, none⟩ = some a0 ∧ w.cell? ⟨g, 1, none⟩ = some a1 ∧ w.cell? ⟨g, 2, none⟩ = some a2 ∧ w.cell? ⟨g, 3, none⟩ = some a3 ∧ w.cell? ⟨g, 5, none⟩ = some b1 := by
  have hadd : ∀ n : Nat, (⟨g, 0, none⟩ : Addr).add n = ⟨g, n, none⟩ := fun n => by unfold Addr.add; split <;> simp_all
  obtain ⟨ad, e, hc⟩ := h.2.2 (by decide)
  obtain rfl := Option.some.inj e
  obtain ⟨c, q1, q2, q3⟩ := hc 0 _ rfl
  obtain ⟨d, p1, p2, p3⟩ := hc 1 _ rfl
  have e0 : (Kd.raw 4).sz = 4 := rfl
  rw [e0] at q3 p3
  have q2' : c = [a0, a1, a2, a3] := q2.1
  have p2' : d = [b0, b1, b2, b3] := p2.1
  subst q2'
  subst p2'
  have g0 := q3 0 a0 rfl
  have g1 := q3 1 a1 rfl
  have g2 := q3 2 a2 rfl
  have g3 := q3 3 a3 rfl
  have g5 := p3 1 b1 rfl
  rw [hadd] at g0 g1 g2 g3 g5
  exact ⟨g0, g1, g2, g3, g5⟩
theorem rows2 {W : World} {g : Nat} {a0 a1 a2 a3 b0 b1 b2 b3 : Value} {t : TypeId} (h : W.heap[g]? = some (.cells #[a0, a1, a2, a3, b0, b1, b2, b3] t (0, 0))) : ReadsRow (fun z d => z = d) 4 W (some ⟨g, 0, none⟩) 2 [[a0, a1, a2, a3], [b0, b1, b2, b3]] := by
  have hadd : ∀ n : Nat, (⟨g, 0, none⟩ : Addr).add n = ⟨g, n, none⟩ := fun n => by unfold Addr.add; split <;> simp_all
  refine ⟨rfl, by decide, fun _ => ⟨⟨g, 0, none⟩, rfl, fun j p hj => ?_⟩⟩
  match j, hj with
  | 0, hj =>
    obtain rfl : [a0, a1, a2, a3] = p := by simpa using hj
    refine ⟨_, rfl, rfl, fun i u hi => ?_⟩
    rw [hadd, blk_cell h]
    match i, hi with
    | 0, hi => exact hi
    | 1, hi => exact hi
    | 2, hi => exact hi
    | 3, hi => exact hi
    | i + 4, hi => simp at hi
  | 1, hj =>
    obtain rfl : [b0, b1, b2, b3] = p := by simpa using hj
    refine ⟨_, rfl, rfl, fun i u hi => ?_⟩
    rw [hadd, blk_cell h]
    match i, hi with
    | 0, hi => exact hi
    | 1, hi => exact hi
    | 2, hi => exact hi
    | 3, hi => exact hi
    | i + 4, hi => simp at hi
  | j + 2, hj => simp at hj
theorem rowsM {W : World} {g : Nat} {a0 a1 a2 a3 b0 b1 b2 b3 : Value} {t : TypeId} (ha : one4 [a0, a1, a2, a3]) (hb : one4 [b0, b1, b2, b3]) (h : W.heap[g]? = some (.cells #[a0, a1, a2, a3, b0, b1, b2, b3] t (0, 0))) : ReadsRow (fun z d => z = d ∧ one4 z) 4 W (some ⟨g, 0, none⟩) 2 [[a0, a1, a2, a3], [b0, b1, b2, b3]] := by
  obtain ⟨h1, h2, h3⟩ := rows2 h
  refine ⟨h1, h2, fun hp => ?_⟩
  obtain ⟨ad, e, hc⟩ := h3 hp
  refine ⟨ad, e, fun j p hj => ?_⟩
  obtain ⟨c, q1, q2, q3⟩ := hc j p hj
  refine ⟨c, q1, ⟨q2, ?_⟩, q3⟩
  match j, hj with
  | 0, hj => obtain rfl : [a0, a1, a2, a3] = p := by simpa using hj
             exact ha
  | 1, hj => obtain rfl : [b0, b1, b2, b3] = p := by simpa using hj
             exact hb
  | j + 2, hj => simp at hj
section
variable {a0 a1 a2 a3 b0 b1 b2 b3 : Value} (ha : one4 [a0, a1, a2, a3]) (hb4 : one4 [b0, b1, b2, b3])
include ha hb4
set_option maxHeartbeats 8000000 in
set_option maxRecDepth 100000 in
theorem clone_raw (g : Nat) (w : World) (hg : w.heap[g]? = some (.cells #[a0, a1, a2, a3, b0, b1, b2, b3] 26 (0, 0))) :
    Calls Try.prog 26 #[.slice (some ⟨g, 0, none⟩) 2 2] w fun e w' => ∃ v : Value, e = .returned v ∧ (Kd.raw 4).R 26 w' w.heap.size (fun _ => True) v [[a0, a1, a2, a3], [b0, b1, b2, b3]] ∧ Below w.heap.size w w' := by
  have hq_ := fun w => Go.run_eql_slice_nil (P := Try.prog) w 24 26 (some ⟨g, 0, none⟩) 2 2 Try.underlying24
  have hn_ : (some (⟨g, 0, none⟩ : Addr)).isNone = false := rfl
  have HG := Aside0.mk hg
  have HA := Aside0.mk ha
  have HB4 := Aside0.mk hb4
  clear hg ha hb4
  go_enter Try.func26, Try.ntmps26
  go_wp2_with (first
    | ((with_reducible refine gate_dst (N := 5) rfl ?_); refine Kd.R_lit (Kd.raw 4) w.heap.size 26 ?hg (N := 5) ?hd (xs := ([] : List (List Value))) (inner := []) (ok := fun _ => True) (okp := fun _ => True) ?hr ?hp (fun _ hk => hk) trivial (Below.refl _ _) (Nat.le_refl _) (by simp) ?_; (case hd => rfl); (case hg => rfl); (case hr => first | (go_simp; done) | (go_simp; rfl)); (case hp => exact (Reps.none _ _)); intro v107 w3 ho4 hb hg_ hnew_; have HO := Aside0.mk ho4; have HB := Aside0.mk hb; clear hg_ hnew_ hb ho4)
    | ((with_reducible refine gate_builtin (b := .append) (xs := #[.tmp 5, .tmp 6]) rfl ?_); at_builtin; refine Kd.R_append_rows (Kd.raw 4) (w0 := w) w.heap.size rfl (.tmp 5) (.tmp 6) 24 26 (.agg #[(.int .i64 0), (.int .i64 0), (.string ⟨#[]⟩), (.slice none 0 0)]) 56 rfl Try.underlying24 info26 rfl (by decide) (by omega) v107 [] [[a0, a1, a2, a3], [b0, b1, b2, b3]] (some ⟨g, 0, none⟩) 2 2 (fun _ => True) (fun k => some k ≠ v107.ownBlock) rfl rfl HO.out (rowsM HA.out HB4.out (blk_below HG.out HB.out)) (fun x cs h => ⟨h.1.symm, h.1 ▸ h.2.1, h.1 ▸ h.2.2⟩) (fun k hk => ⟨trivial, hk⟩) (fun _ _ => trivial) HB.out (below_size HB.out) (by decide) ?_; intro v110 w5 ho hb hg hat; rw [List.nil_append] at ho; have HO5 := Aside0.mk ho; have HB5 := Aside0.mk hb; clear ho hb hg hat))
  go_ret
  exact ⟨_, rfl, HO5.out, HB5.out⟩
set_option maxHeartbeats 8000000 in
set_option maxRecDepth 100000 in
theorem all_raw (g : Nat) (w : World) (hg : w.heap[g]? = some (.cells #[a0, a1, a2, a3, b0, b1, b2, b3] 26 (0, 0))) :
    Calls Try.prog 16 #[.slice (some ⟨g, 0, none⟩) 2 2] w fun e w' => ∃ (gA : Nat) (cA : Nat), e = .returned (.agg #[.int .i64 2, .int .i64 0, .string ⟨#[]⟩, .slice (some ⟨gA, 0, none⟩) 2 cA]) ∧ (Kd.raw 4).R 26 w' w.heap.size (fun _ => True) (.slice (some ⟨gA, 0, none⟩) 2 cA) [[a0, a1, a2, a3], [b0, b1, b2, b3]] ∧ Below w.heap.size w w' := by
  have hu := Try.underlying26
  have hx := blk_new w (.cells #[.int .i64 0, .int .i64 0, .string ⟨#[]⟩, .slice none 0 0] 26)
  have hb := below_alloc (Below.refl w.heap.size w) (.cells #[.int .i64 0, .int .i64 0, .string ⟨#[]⟩, .slice none 0 0] 26)
  have HG := Aside0.mk (blk_alloc hg (.cells #[.int .i64 0, .int .i64 0, .string ⟨#[]⟩, .slice none 0 0] 26))
  have HC := Aside0.mk (clone_raw ha hb4 g (w.alloc (.cells #[.int .i64 0, .int .i64 0, .string ⟨#[]⟩, .slice none 0 0] 26)) HG.out)
  clear hg ha hb4
  go_enter Try.func16, Try.ntmps16
  go_upto_region 1 with fail
  generalize hww : w.alloc (.cells #[.int .i64 0, .int .i64 0, .string ⟨#[]⟩, .slice none 0 0] 26) = w2 at hx hb HG HC ⊢
  generalize hgg : w.heap.size = gb at hx ⊢
  have hg1 : w.heap.size ≤ gb := Nat.le_of_eq hgg
  have HX := Aside0.mk hx
  have HB := Aside0.mk hb
  have HL := Aside0.mk (blk_lt hx)
  clear hx hb hww hgg
  go_wp2_with (first
    | (go_at_call 26; (with_reducible refine HC.out.mono ?_); rintro e w3 ⟨v, rfl, hr, hb⟩; obtain ⟨gA, cA, rfl, q1, q2, _⟩ := Kd.R_form hr (Nat.succ_pos _); have hx3 := blk_below HX.out hb; have HR := Aside0.mk hr; have HB3 := Aside0.mk (below_step HB.out hb); have HGA := Aside0.mk q1; clear q1 q2 hb hr; have c0 := (blk_cell hx3 0).trans rfl; have c1 := (blk_cell hx3 1).trans rfl; have c2 := (blk_cell hx3 2).trans rfl; have c3 := (blk_cell hx3 3).trans rfl; have p0 := blk_frozen hx3 0; have p1 := blk_frozen hx3 1; have p2 := blk_frozen hx3 2; have p3 := blk_frozen hx3 3))
  have x0 := blk_put (cs := #[.int .i64 0, .int .i64 0, .string ⟨#[]⟩, .slice none 0 0]) hx3 0 (.int .i64 2) rfl
  have x1 := blk_put (cs := #[.int .i64 2, .int .i64 0, .string ⟨#[]⟩, .slice none 0 0]) x0 1 (.int .i64 0) rfl
  have x2 := blk_put (cs := #[.int .i64 2, .int .i64 0, .string ⟨#[]⟩, .slice none 0 0]) x1 2 (.string ⟨#[]⟩) rfl
  have x3 := blk_put (cs := #[.int .i64 2, .int .i64 0, .string ⟨#[]⟩, .slice none 0 0]) x2 3 (.slice (some ⟨gA, 0, none⟩) 2 cA) rfl
  have hb2 := (((HB3.out.setCell (p := ⟨gb, 0, none⟩) hg1 (.int .i64 2)).setCell (p := ⟨gb, 1, none⟩) hg1 (.int .i64 0)).setCell (p := ⟨gb, 2, none⟩) hg1 (.string ⟨#[]⟩)).setCell (p := ⟨gb, 3, none⟩) hg1 (.slice (some ⟨gA, 0, none⟩) 2 cA)
  have hr2 := Kd.R_mono (Kd.R_bound HR.out) (ok' := fun k => k ≠ gb) (fun k hk => by have := hk.2.1; have := HL.out; omega)
  have hr3 := Kd.R_far (Kd.R_far (Kd.R_far (Kd.R_far hr2 (p := ⟨gb, 0, none⟩) (fun k hk => hk) (.int .i64 2)) (p := ⟨gb, 1, none⟩) (fun k hk => hk) (.int .i64 0)) (p := ⟨gb, 2, none⟩) (fun k hk => hk) (.string ⟨#[]⟩)) (p := ⟨gb, 3, none⟩) (fun k hk => hk) (.slice (some ⟨gA, 0, none⟩) 2 cA)
  refine bodyPost_ret (results_single Try.results16 (.cell gb 26 #[.int .i64 2, .int .i64 0, .string ⟨#[]⟩, .slice (some ⟨gA, 0, none⟩) 2 cA] (0, 0) _ rfl x3 Try.underlying26 rfl (by kernel_rfl) .nil)) rfl ?_
  exact ⟨gA, cA, rfl, Kd.R_mono (Kd.R_lower hr3 (below_size HB.out)) (fun _ _ => trivial), hb2⟩
end
set_option maxHeartbeats 8000000 in
set_option maxRecDepth 100000 in
theorem makes_walk (n : Int) (s : ByteArray) (l : List (S56)) (A : Option Addr) (c : Nat) (w : World) (hl : Kd.C k56 w A l.length l) (hc : l.length ≤ c) :
    Calls Try.prog 5 #[.int .i64 n, .string s, .slice A l.length c] w fun e w' => e = .returned (.bool true) ∧ Below w.heap.size w w' := by
  have hu := Try.underlying26
  have hu2 := Try.underlying29
  have HBu := Aside0.mk (precinctlaw02_build.calls A c l (Bu.built l).f0 (Bu.built l).f1 (Bu.built l).f2 (Bu.built l).f3 (Bu.toW (Bu.built l)).f0 (Bu.toW (Bu.built l)).f1 (Bu.toW (Bu.built l)).f2 (Bu.toW (Bu.built l)).f3 w hl hc rfl)
  clear hl hc
  generalize Bu.toW (Bu.built l) = vw at HBu
  generalize Bu.built l = v at HBu
  obtain ⟨f0, f1, f2, f3⟩ := v
  obtain ⟨h0, h1, h2, h3⟩ := vw
  simp only at HBu
  go_enter Try.func5, Try.ntmps5
  go_upto_region 2 with (go_at_call 9; (with_reducible refine HBu.out.mono ?_); rintro e w1 ⟨v3_, v7_, rfl, hr1, hr2, hb⟩; obtain ⟨Av, cv, rfl⟩ := Kd.R_slice hr1; obtain ⟨Aw, cw, rfl⟩ := Kd.R_slice hr2; have HR := Aside0.mk hr1; have HB := Aside0.mk hb; clear hr1 hr2 hb)
  have hv := blk_alloc (blk_new w1 (.cells #[.int .i64 f0, .int .i64 f1, .string f2, .slice Av f3.length cv] 26)) (.cells #[.int .i64 h0, .int .i64 h1, .string h2, .slice Aw h3.length cw] 29)
  have hR := Kd.R_alloc (Kd.R_alloc HR.out (.cells #[.int .i64 f0, .int .i64 f1, .string f2, .slice Av f3.length cv] 26)) (.cells #[.int .i64 h0, .int .i64 h1, .string h2, .slice Aw h3.length cw] 29)
  have hB := below_alloc (below_alloc HB.out (.cells #[.int .i64 f0, .int .i64 f1, .string f2, .slice Av f3.length cv] 26)) (.cells #[.int .i64 h0, .int .i64 h1, .string h2, .slice Aw h3.length cw] 29)
  clear HR HB HBu
  generalize hW2 : (w1.alloc (.cells #[.int .i64 f0, .int .i64 f1, .string f2, .slice Av f3.length cv] 26)).alloc (.cells #[.int .i64 h0, .int .i64 h1, .string h2, .slice Aw h3.length cw] 29) = w2 at hv hR hB ⊢
  clear hW2
  generalize w1.heap.size = gv at hv ⊢
  have hHeldS : ∀ w' : World, Below w2.heap.size w2 w' → (w'.cell? ⟨gv, 0, none⟩ = some (.int .i64 f0) ∧ w'.cell? ⟨gv, 1, none⟩ = some (.int .i64 f1) ∧ w'.cell? ⟨gv, 2, none⟩ = some (.string f2) ∧ w'.cell? ⟨gv, 3, none⟩ = some (.slice Av f3.length cv)) := fun w' hb => ⟨(blk_cell (blk_below hv hb) 0).trans rfl, (blk_cell (blk_below hv hb) 1).trans rfl, (blk_cell (blk_below hv hb) 2).trans rfl, (blk_cell (blk_below hv hb) 3).trans rfl⟩
  have hb2 : Below w2.heap.size w2 w2.drew := below_drew1 (Below.refl w2.heap.size w2)
  refine start_ (n := 5) (ds := []) (S := fun w' => w'.cell? ⟨gv, 0, none⟩ = some (.int .i64 f0) ∧ w'.cell? ⟨gv, 1, none⟩ = some (.int .i64 f1) ∧ w'.cell? ⟨gv, 2, none⟩ = some (.string f2) ∧ w'.cell? ⟨gv, 3, none⟩ = some (.slice Av f3.length cv)) #[false, false, false, false, false] (by kernel_rfl) rfl rfl (hHeldS _ hb2) (fun hHeld => ?_)
  refine take_ (i := 0) (N := some 18) (v := ?_) (a' := ?_) #[true, false, false, false, false] rfl rfl (by kernel_rfl) (fun _ _ _ h => h) (Or.inl ⟨by rfl, ?_⟩) hHeld ?_ ?_
  rotate_left
  · rintro w' ⟨s0, s1, s2, s3⟩
    go_simp
    with_reducible rfl
  rotate_left
  · simp only [Act.put, List.setIfInBounds_toArray, List.set_cons_zero, List.set_cons_succ, i64_w, i32_w]
    rfl
  refine pure_ (i := 1) (N := some 19) (v := ?_) (a' := ?_) #[true, true, false, false, false] rfl rfl (by kernel_rfl) (fun _ _ _ h => h) (Or.inl ⟨by rfl, ?_⟩) ?_ ?_
  rotate_left
  · intro w'
    go_simp
    with_reducible rfl
  rotate_left
  · simp only [Act.put, List.setIfInBounds_toArray, List.set_cons_zero, List.set_cons_succ, i64_w, i32_w]
    rfl
  refine one_ (i := 2) (N := some 20) #[true, true, true, false, false] rfl rfl (by kernel_rfl) (by simp) (fun K hK => ?_)
  refine goes_ Try.func15 (by kernel_rfl) rfl #[.int .i64 n] (by rfl) rfl rfl (by first | rfl | (simp only [List.map_toArray, List.map_cons, List.map_nil]; done) | (simp only [List.map_toArray, List.map_cons, List.map_nil]; rfl)) ?_
  refine (pack_Num.calls n 0 n ⟨#[]⟩ [] _ rfl).mono ?_
  rintro e w3 ⟨v3_, rfl, hr3, hb⟩
  obtain ⟨A3, c3, rfl⟩ := Kd.R_slice hr3
  clear hr3
  refine ⟨_, rfl, ?_⟩
  have hb3 := below_step hb2 hb
  clear hb
  refine hK.out _ _ (hHeldS _ hb3) (fun hHeld => ?_)
  clear hK K
  refine norm_ (a' := ?_) ?_ ?_
  rotate_left
  · show Act.put _ (some 20) _ = _
    simp only [Act.put, List.setIfInBounds_toArray, List.set_cons_zero, List.set_cons_succ, i64_w, i32_w]
    rfl
  refine one_ (i := 3) (N := some 21) #[true, true, true, true, false] rfl rfl (by kernel_rfl) (by simp) (fun K hK => ?_)
  refine value_ (w1 := w3.alloc (.cells #[.int .i64 f0, .int .i64 f1, .string f2, .slice Av f3.length cv, .int .i64 0, .int .i64 n, .string ⟨#[]⟩, .slice A3 0 c3] 26)) (v := .slice (some ⟨w3.heap.size, 0, none⟩) 2 2) (by rfl) rfl ?_ ?_
  · first | (go_simp; done) | (go_simp; with_reducible rfl)
  have hb4 := below_alloc hb3 (.cells #[.int .i64 f0, .int .i64 f1, .string f2, .slice Av f3.length cv, .int .i64 0, .int .i64 n, .string ⟨#[]⟩, .slice A3 0 c3] 26)
  have hg := blk_new w3 (.cells #[.int .i64 f0, .int .i64 f1, .string f2, .slice Av f3.length cv, .int .i64 0, .int .i64 n, .string ⟨#[]⟩, .slice A3 0 c3] 26)
  have hgv : gv ≠ w3.heap.size := Nat.ne_of_lt (blk_lt (blk_below hv hb3))
  have hg3 := below_size hb3
  refine hK.out _ _ (hHeldS _ hb4) (fun hHeld => ?_)
  clear hK K hHeld
  refine norm_ (a' := ?_) ?_ ?_
  rotate_left
  · show Act.put _ (some 21) _ = _
    simp only [Act.put, List.setIfInBounds_toArray, List.set_cons_zero, List.set_cons_succ, i64_w, i32_w]
    rfl
  refine pure_ (i := 4) (N := some 9) (v := ?_) (a' := ?_) #[true, true, true, true, true] rfl rfl (by kernel_rfl) (fun _ _ _ h => h) (Or.inl ⟨by rfl, ?_⟩) ?_ ?_
  rotate_left
  · intro w'
    go_simp
    with_reducible rfl
  rotate_left
  · simp only [Act.put, List.setIfInBounds_toArray, List.set_cons_zero, List.set_cons_succ, i64_w, i32_w]
    rfl
  refine done_ (by kernel_rfl) ?_
  have hv4 := blk_below hv hb4
  have hR4 := Kd.R_below hR hb4
  have hB4 := below_step hB hb4
  have hRl := Kd.R_mono (Kd.R_elderB hR w3.heap.size hg3) (fun k hk => hk.2)
  have hRl4 := Kd.R_below hRl hb4
  have hgw : w.heap.size ≤ w3.heap.size := Nat.le_trans (below_size hB) hg3
  clear hHeldS hv hR hB hb2 hb3 hb4 hRl hg3 hR4
  generalize hW5 : w3.alloc (.cells #[.int .i64 f0, .int .i64 f1, .string f2, .slice Av f3.length cv, .int .i64 0, .int .i64 n, .string ⟨#[]⟩, .slice A3 0 c3] 26) = w5 at hg hv4 hB4 hRl4 ⊢
  clear hW5
  generalize w3.heap.size = gg at hg hgv hRl4 hgw ⊢
  have hAll := Aside0.mk (all_raw (a0 := .int .i64 f0) (a1 := .int .i64 f1) (a2 := .string f2) (a3 := .slice Av f3.length cv) (b0 := .int .i64 0) (b1 := .int .i64 n) (b2 := .string ⟨#[]⟩) (b3 := .slice A3 0 c3) (one4_of _ _ _ _ _ _) (one4_of _ _ _ _ _ _) gg w5 hg)
  go_upto_region 4 with (go_at_call 16; (with_reducible refine hAll.out.mono ?_); rintro e w6 ⟨gA, cA, rfl, hA, hb⟩; have hv6 := blk_below hv4 hb; have hg6 := blk_below hg hb; have hR6 := Kd.R_below hRl4 hb; have hB6 := below_step hB4 hb; have hgA : gA ≠ gg := (by have h_ := Kd.R_base hA gA rfl; have := blk_lt hg; omega); clear hb)
  clear hAll hv4 hg hRl4 hB4
  have hv7 := blk_alloc hv6 (.cells #[.int .i64 2, .int .i64 0, .string ⟨#[]⟩, .slice (some ⟨gA, 0, none⟩) 2 cA] 26)
  have hg7 := blk_alloc hg6 (.cells #[.int .i64 2, .int .i64 0, .string ⟨#[]⟩, .slice (some ⟨gA, 0, none⟩) 2 cA] 26)
  have hR7 := Kd.R_alloc hR6 (.cells #[.int .i64 2, .int .i64 0, .string ⟨#[]⟩, .slice (some ⟨gA, 0, none⟩) 2 cA] 26)
  have hB7 := below_alloc hB6 (.cells #[.int .i64 2, .int .i64 0, .string ⟨#[]⟩, .slice (some ⟨gA, 0, none⟩) 2 cA] 26)
  have hA7 := Kd.R_alloc hA (.cells #[.int .i64 2, .int .i64 0, .string ⟨#[]⟩, .slice (some ⟨gA, 0, none⟩) 2 cA] 26)
  have hx7 := blk_new w6 (.cells #[.int .i64 2, .int .i64 0, .string ⟨#[]⟩, .slice (some ⟨gA, 0, none⟩) 2 cA] 26)
  have hxg : w6.heap.size ≠ gg := Nat.ne_of_gt (blk_lt hg6)
  clear hv6 hg6 hR6 hB6 hA
  generalize hW7 : w6.alloc (.cells #[.int .i64 2, .int .i64 0, .string ⟨#[]⟩, .slice (some ⟨gA, 0, none⟩) 2 cA] 26) = w7 at hv7 hg7 hR7 hB7 hA7 hx7 ⊢
  clear hW7
  generalize w6.heap.size = gx at hx7 hxg ⊢
  have c5 := (blk_cell hg7 5).trans rfl
  have p5 := blk_frozen hg7 5
  go_upto_region 5 with fail
  have hv8 := blk_far (p := ⟨gg, 5, none⟩) hv7 hgv (.int .i64 (Go.bits .xor .i64 n 1))
  have hx8 := blk_far (p := ⟨gg, 5, none⟩) hx7 hxg (.int .i64 (Go.bits .xor .i64 n 1))
  have hA8 := Kd.R_far (Kd.R_tight rfl hA7) (p := ⟨gg, 5, none⟩) (fun k hk => by (have h_ : k = gA := by simpa [Value.ownBlock, eq_comm] using hk); rw [h_]; exact hgA) (.int .i64 (Go.bits .xor .i64 n 1))
  have hR8 := Kd.R_far hR7 (p := ⟨gg, 5, none⟩) (fun k hk => hk) (.int .i64 (Go.bits .xor .i64 n 1))
  have hB8 := below_set (j := 5) (v := (.int .i64 (Go.bits .xor .i64 n 1))) hB7 hgw
  clear c5 p5 hv7 hx7 hA7 hR7 hB7 hg7
  generalize hW8 : w7.setCell ⟨gg, 5, none⟩ (.int .i64 (Go.bits .xor .i64 n 1)) = w8 at hv8 hx8 hA8 hR8 hB8 ⊢
  clear hW8
  have hHeldS : ∀ w' : World, Below w8.heap.size w8 w' → (w'.cell? ⟨gx, 0, none⟩ = some (.int .i64 2) ∧ w'.cell? ⟨gx, 1, none⟩ = some (.int .i64 0) ∧ w'.cell? ⟨gx, 2, none⟩ = some (.string ⟨#[]⟩) ∧ w'.cell? ⟨gx, 3, none⟩ = some (.slice (some ⟨gA, 0, none⟩) 2 cA) ∧ w'.cell? ⟨gA, 0, none⟩ = some (.int .i64 f0) ∧ w'.cell? ⟨gA, 1, none⟩ = some (.int .i64 f1) ∧ w'.cell? ⟨gA, 2, none⟩ = some (.string f2) ∧ w'.cell? ⟨gA, 3, none⟩ = some (.slice Av f3.length cv) ∧ w'.cell? ⟨gA, 5, none⟩ = some (.int .i64 n) ∧ w'.cell? ⟨gv, 0, none⟩ = some (.int .i64 f0) ∧ w'.cell? ⟨gv, 1, none⟩ = some (.int .i64 f1) ∧ w'.cell? ⟨gv, 2, none⟩ = some (.string f2) ∧ w'.cell? ⟨gv, 3, none⟩ = some (.slice Av f3.length cv)) := fun w' hb => (by (have h_ := raw_cells (Kd.R_reads' (Kd.R_below hA8 hb)).2.2); exact ⟨(blk_cell (blk_below hx8 hb) 0).trans rfl, (blk_cell (blk_below hx8 hb) 1).trans rfl, (blk_cell (blk_below hx8 hb) 2).trans rfl, (blk_cell (blk_below hx8 hb) 3).trans rfl, h_.1, h_.2.1, h_.2.2.1, h_.2.2.2.1, h_.2.2.2.2, (blk_cell (blk_below hv8 hb) 0).trans rfl, (blk_cell (blk_below hv8 hb) 1).trans rfl, (blk_cell (blk_below hv8 hb) 2).trans rfl, (blk_cell (blk_below hv8 hb) 3).trans rfl⟩)
  have hb8 : Below w8.heap.size w8 w8.drew := below_drew1 (Below.refl w8.heap.size w8)
  obtain ⟨kw, hkw⟩ := Wk.wakes
  refine start_ (n := 41) (ds := []) (S := fun w' => w'.cell? ⟨gx, 0, none⟩ = some (.int .i64 2) ∧ w'.cell? ⟨gx, 1, none⟩ = some (.int .i64 0) ∧ w'.cell? ⟨gx, 2, none⟩ = some (.string ⟨#[]⟩) ∧ w'.cell? ⟨gx, 3, none⟩ = some (.slice (some ⟨gA, 0, none⟩) 2 cA) ∧ w'.cell? ⟨gA, 0, none⟩ = some (.int .i64 f0) ∧ w'.cell? ⟨gA, 1, none⟩ = some (.int .i64 f1) ∧ w'.cell? ⟨gA, 2, none⟩ = some (.string f2) ∧ w'.cell? ⟨gA, 3, none⟩ = some (.slice Av f3.length cv) ∧ w'.cell? ⟨gA, 5, none⟩ = some (.int .i64 n) ∧ w'.cell? ⟨gv, 0, none⟩ = some (.int .i64 f0) ∧ w'.cell? ⟨gv, 1, none⟩ = some (.int .i64 f1) ∧ w'.cell? ⟨gv, 2, none⟩ = some (.string f2) ∧ w'.cell? ⟨gv, 3, none⟩ = some (.slice Av f3.length cv)) #[false, false, false, false, false, false, false, false, false, false, false, false, false, false, false, false, false, false, false, false, false, false, false, false, false, false, false, false, false, false, false, false, false, false, false, false, false, false, false, false, false] (by kernel_rfl) rfl rfl (hHeldS _ hb8) (fun hHeld => ?_)
  refine one_ (i := 0) (N := some 31) #[true, false, false, false, false, false, false, false, false, false, false, false, false, false, false, false, false, false, false, false, false, false, false, false, false, false, false, false, false, false, false, false, false, false, false, false, false, false, false, false, false] rfl rfl (by kernel_rfl) (by simp) (fun K hK => ?_)
  refine goes_ Try.func12 (by kernel_rfl) rfl #[] (by rfl) rfl rfl (by first | rfl | (simp only [List.map_toArray, List.map_cons, List.map_nil]; done) | (simp only [List.map_toArray, List.map_cons, List.map_nil]; rfl)) ?_
  refine (precinctlaw02_wakes.calls kw true _ hkw).mono ?_
  rintro e w9 ⟨rfl, hb⟩
  refine ⟨_, rfl, ?_⟩
  have hb9 := below_step hb8 hb
  clear hb
  refine hK.out _ _ (hHeldS _ hb9) (fun hHeld => ?_)
  clear hK K
  refine norm_ (a' := ?_) ?_ ?_
  rotate_left
  · show Act.put _ (some 31) _ = _
    simp only [Act.put, List.setIfInBounds_toArray, List.set_cons_zero, List.set_cons_succ, i64_w, i32_w]
    rfl
  refine pure_ (i := 1) (N := some 32) (v := ?_) (a' := ?_) #[true, true, false, false, false, false, false, false, false, false, false, false, false, false, false, false, false, false, false, false, false, false, false, false, false, false, false, false, false, false, false, false, false, false, false, false, false, false, false, false, false] rfl rfl (by kernel_rfl) (fun _ _ _ h => h) (Or.inl ⟨by rfl, ?_⟩) ?_ ?_
  rotate_left
  · intro w'
    go_simp
    with_reducible rfl
  rotate_left
  · simp only [Act.put, List.setIfInBounds_toArray, List.set_cons_zero, List.set_cons_succ, i64_w, i32_w]
    rfl
  refine pure_ (i := 2) (N := some 33) (v := ?_) (a' := ?_) #[true, true, true, false, false, false, false, false, false, false, false, false, false, false, false, false, false, false, false, false, false, false, false, false, false, false, false, false, false, false, false, false, false, false, false, false, false, false, false, false, false] rfl rfl (by kernel_rfl) (fun _ _ _ h => h) (Or.inl ⟨by rfl, ?_⟩) ?_ ?_
  rotate_left
  · intro w'
    go_simp
    with_reducible rfl
  rotate_left
  · simp only [Act.put, List.setIfInBounds_toArray, List.set_cons_zero, List.set_cons_succ, i64_w, i32_w]
    rfl
  refine pure_ (i := 3) (N := some 34) (v := ?_) (a' := ?_) #[true, true, true, true, false, false, false, false, false, false, false, false, false, false, false, false, false, false, false, false, false, false, false, false, false, false, false, false, false, false, false, false, false, false, false, false, false, false, false, false, false] rfl rfl (by kernel_rfl) (fun _ _ _ h => h) (Or.inl ⟨by rfl, ?_⟩) ?_ ?_
  rotate_left
  · intro w'
    go_simp
    with_reducible rfl
  rotate_left
  · simp only [Act.put, List.setIfInBounds_toArray, List.set_cons_zero, List.set_cons_succ, i64_w, i32_w]
    rfl
  refine take_ (i := 4) (N := some 35) (v := ?_) (a' := ?_) #[true, true, true, true, true, false, false, false, false, false, false, false, false, false, false, false, false, false, false, false, false, false, false, false, false, false, false, false, false, false, false, false, false, false, false, false, false, false, false, false, false] rfl rfl (by kernel_rfl) (fun _ _ _ h => h) (Or.inl ⟨by rfl, ?_⟩) hHeld ?_ ?_
  rotate_left
  · rintro w' ⟨s0, s1, s2, s3, s4, s5, s6, s7, s8, s9, s10, s11, s12⟩
    go_simp
    with_reducible rfl
  rotate_left
  · simp only [Act.put, List.setIfInBounds_toArray, List.set_cons_zero, List.set_cons_succ, i64_w, i32_w]
    rfl
  refine pure_ (i := 5) (N := some 36) (v := ?_) (a' := ?_) #[true, true, true, true, true, true, false, false, false, false, false, false, false, false, false, false, false, false, false, false, false, false, false, false, false, false, false, false, false, false, false, false, false, false, false, false, false, false, false, false, false] rfl rfl (by kernel_rfl) (fun _ _ _ h => h) (Or.inl ⟨by rfl, ?_⟩) ?_ ?_
  rotate_left
  · intro w'
    go_simp
    with_reducible rfl
  rotate_left
  · simp only [Act.put, List.setIfInBounds_toArray, List.set_cons_zero, List.set_cons_succ, i64_w, i32_w]
    rfl
  refine pure_ (i := 6) (N := some 37) (v := ?_) (a' := ?_) #[true, true, true, true, true, true, true, false, false, false, false, false, false, false, false, false, false, false, false, false, false, false, false, false, false, false, false, false, false, false, false, false, false, false, false, false, false, false, false, false, false] rfl rfl (by kernel_rfl) (fun _ _ _ h => h) (Or.inl ⟨by rfl, ?_⟩) ?_ ?_
  rotate_left
  · intro w'
    go_simp
    with_reducible rfl
  rotate_left
  · simp only [Act.put, List.setIfInBounds_toArray, List.set_cons_zero, List.set_cons_succ, i64_w, i32_w]
    rfl
  refine pure_ (i := 7) (N := some 38) (v := ?_) (a' := ?_) #[true, true, true, true, true, true, true, true, false, false, false, false, false, false, false, false, false, false, false, false, false, false, false, false, false, false, false, false, false, false, false, false, false, false, false, false, false, false, false, false, false] rfl rfl (by kernel_rfl) (fun _ _ _ h => h) (Or.inl ⟨by rfl, ?_⟩) ?_ ?_
  rotate_left
  · intro w'
    go_simp
    with_reducible rfl
  rotate_left
  · simp only [Act.put, List.setIfInBounds_toArray, List.set_cons_zero, List.set_cons_succ, i64_w, i32_w]
    rfl
  refine pure_ (i := 8) (N := some 39) (v := ?_) (a' := ?_) #[true, true, true, true, true, true, true, true, true, false, false, false, false, false, false, false, false, false, false, false, false, false, false, false, false, false, false, false, false, false, false, false, false, false, false, false, false, false, false, false, false] rfl rfl (by kernel_rfl) (fun _ _ _ h => h) (Or.inl ⟨by rfl, ?_⟩) ?_ ?_
  rotate_left
  · intro w'
    go_simp
    with_reducible rfl
  rotate_left
  · simp only [Act.put, List.setIfInBounds_toArray, List.set_cons_zero, List.set_cons_succ, i64_w, i32_w]
    rfl
  refine pure_ (i := 9) (N := some 40) (v := ?_) (a' := ?_) #[true, true, true, true, true, true, true, true, true, true, false, false, false, false, false, false, false, false, false, false, false, false, false, false, false, false, false, false, false, false, false, false, false, false, false, false, false, false, false, false, false] rfl rfl (by kernel_rfl) (fun _ _ _ h => h) (Or.inl ⟨by rfl, ?_⟩) ?_ ?_
  rotate_left
  · intro w'
    go_simp
    with_reducible rfl
  rotate_left
  · simp only [Act.put, List.setIfInBounds_toArray, List.set_cons_zero, List.set_cons_succ, i64_w, i32_w]
    rfl
  refine take_ (i := 10) (N := some 41) (v := ?_) (a' := ?_) #[true, true, true, true, true, true, true, true, true, true, true, false, false, false, false, false, false, false, false, false, false, false, false, false, false, false, false, false, false, false, false, false, false, false, false, false, false, false, false, false, false] rfl rfl (by kernel_rfl) (fun _ _ _ h => h) (Or.inl ⟨by rfl, ?_⟩) hHeld ?_ ?_
  rotate_left
  · rintro w' ⟨s0, s1, s2, s3, s4, s5, s6, s7, s8, s9, s10, s11, s12⟩
    go_simp
    with_reducible rfl
  rotate_left
  · simp only [Act.put, List.setIfInBounds_toArray, List.set_cons_zero, List.set_cons_succ, i64_w, i32_w]
    rfl
  refine pure_ (i := 11) (N := some 42) (v := ?_) (a' := ?_) #[true, true, true, true, true, true, true, true, true, true, true, true, false, false, false, false, false, false, false, false, false, false, false, false, false, false, false, false, false, false, false, false, false, false, false, false, false, false, false, false, false] rfl rfl (by kernel_rfl) (fun _ _ _ h => h) (Or.inl ⟨by rfl, ?_⟩) ?_ ?_
  rotate_left
  · intro w'
    go_simp
    with_reducible rfl
  rotate_left
  · simp only [Act.put, List.setIfInBounds_toArray, List.set_cons_zero, List.set_cons_succ, i64_w, i32_w]
    rfl
  refine take_ (i := 12) (N := some 43) (v := ?_) (a' := ?_) #[true, true, true, true, true, true, true, true, true, true, true, true, true, false, false, false, false, false, false, false, false, false, false, false, false, false, false, false, false, false, false, false, false, false, false, false, false, false, false, false, false] rfl rfl (by kernel_rfl) (fun _ _ _ h => h) (Or.inl ⟨by rfl, ?_⟩) hHeld ?_ ?_
  rotate_left
  · rintro w' ⟨s0, s1, s2, s3, s4, s5, s6, s7, s8, s9, s10, s11, s12⟩
    go_simp
    with_reducible rfl
  rotate_left
  · simp only [Act.put, List.setIfInBounds_toArray, List.set_cons_zero, List.set_cons_succ, i64_w, i32_w]
    rfl
  refine take_ (i := 13) (N := some 44) (v := ?_) (a' := ?_) #[true, true, true, true, true, true, true, true, true, true, true, true, true, true, false, false, false, false, false, false, false, false, false, false, false, false, false, false, false, false, false, false, false, false, false, false, false, false, false, false, false] rfl rfl (by kernel_rfl) (fun _ _ _ h => h) (Or.inl ⟨by rfl, ?_⟩) hHeld ?_ ?_
  rotate_left
  · rintro w' ⟨s0, s1, s2, s3, s4, s5, s6, s7, s8, s9, s10, s11, s12⟩
    go_simp
    with_reducible rfl
  rotate_left
  · simp only [Act.put, List.setIfInBounds_toArray, List.set_cons_zero, List.set_cons_succ, i64_w, i32_w]
    rfl
  refine one_ (i := 14) (N := some 45) #[true, true, true, true, true, true, true, true, true, true, true, true, true, true, true, false, false, false, false, false, false, false, false, false, false, false, false, false, false, false, false, false, false, false, false, false, false, false, false, false, false] rfl rfl (by kernel_rfl) (by simp) (fun K hK => ?_)
  refine goes_ Try.func13 (by kernel_rfl) rfl #[.agg #[.int .i64 f0, .int .i64 f1, .string f2, .slice Av f3.length cv], .agg #[.int .i64 f0, .int .i64 f1, .string f2, .slice Av f3.length cv]] (by rfl) rfl rfl (by first | rfl | (simp only [List.map_toArray, List.map_cons, List.map_nil]; done) | (simp only [List.map_toArray, List.map_cons, List.map_nil]; rfl)) ?_
  have hq := Kd.R_reads' (Kd.R_below hR8 hb9)
  refine (pack_Equal.calls f0 f1 f2 Av cv f3 f0 f1 f2 Av cv f3 true _ hq.2.2 hq.2.1 hq.2.2 hq.2.1 (congrArg some (Eq.eqV_refl _))).mono ?_
  rintro e w10 ⟨rfl, hb⟩
  refine ⟨_, rfl, ?_⟩
  have hb10 := below_step hb9 hb
  clear hb
  refine hK.out _ _ (hHeldS _ hb10) (fun hHeld => ?_)
  clear hK K
  refine norm_ (a' := ?_) ?_ ?_
  rotate_left
  · show Act.put _ (some 45) _ = _
    simp only [Act.put, List.setIfInBounds_toArray, List.set_cons_zero, List.set_cons_succ, i64_w, i32_w]
    rfl
  refine pure_ (i := 15) (N := some 46) (v := ?_) (a' := ?_) #[true, true, true, true, true, true, true, true, true, true, true, true, true, true, true, true, false, false, false, false, false, false, false, false, false, false, false, false, false, false, false, false, false, false, false, false, false, false, false, false, false] rfl rfl (by kernel_rfl) (fun _ _ _ h => h) (Or.inl ⟨by rfl, ?_⟩) ?_ ?_
  rotate_left
  · intro w'
    go_simp
    with_reducible rfl
  rotate_left
  · simp only [Act.put, List.setIfInBounds_toArray, List.set_cons_zero, List.set_cons_succ, i64_w, i32_w]
    rfl
  refine pure_ (i := 16) (N := some 47) (v := ?_) (a' := ?_) #[true, true, true, true, true, true, true, true, true, true, true, true, true, true, true, true, true, false, false, false, false, false, false, false, false, false, false, false, false, false, false, false, false, false, false, false, false, false, false, false, false] rfl rfl (by kernel_rfl) (fun _ _ _ h => h) (Or.inl ⟨by rfl, ?_⟩) ?_ ?_
  rotate_left
  · intro w'
    go_simp
    with_reducible rfl
  rotate_left
  · simp only [Act.put, List.setIfInBounds_toArray, List.set_cons_zero, List.set_cons_succ, i64_w, i32_w]
    rfl
  refine pure_ (i := 17) (N := some 48) (v := ?_) (a' := ?_) #[true, true, true, true, true, true, true, true, true, true, true, true, true, true, true, true, true, true, false, false, false, false, false, false, false, false, false, false, false, false, false, false, false, false, false, false, false, false, false, false, false] rfl rfl (by kernel_rfl) (fun _ _ _ h => h) (Or.inl ⟨by rfl, ?_⟩) ?_ ?_
  rotate_left
  · intro w'
    go_simp
    with_reducible rfl
  rotate_left
  · simp only [Act.put, List.setIfInBounds_toArray, List.set_cons_zero, List.set_cons_succ, i64_w, i32_w]
    rfl
  refine pure_ (i := 18) (N := some 49) (v := ?_) (a' := ?_) #[true, true, true, true, true, true, true, true, true, true, true, true, true, true, true, true, true, true, true, false, false, false, false, false, false, false, false, false, false, false, false, false, false, false, false, false, false, false, false, false, false] rfl rfl (by kernel_rfl) (fun _ _ _ h => h) (Or.inl ⟨by rfl, ?_⟩) ?_ ?_
  rotate_left
  · intro w'
    go_simp
    with_reducible rfl
  rotate_left
  · simp only [Act.put, List.setIfInBounds_toArray, List.set_cons_zero, List.set_cons_succ, i64_w, i32_w]
    rfl
  refine take_ (i := 19) (N := some 50) (v := ?_) (a' := ?_) #[true, true, true, true, true, true, true, true, true, true, true, true, true, true, true, true, true, true, true, true, false, false, false, false, false, false, false, false, false, false, false, false, false, false, false, false, false, false, false, false, false] rfl rfl (by kernel_rfl) (fun _ _ _ h => h) (Or.inl ⟨by rfl, ?_⟩) hHeld ?_ ?_
  rotate_left
  · rintro w' ⟨s0, s1, s2, s3, s4, s5, s6, s7, s8, s9, s10, s11, s12⟩
    go_simp
    with_reducible rfl
  rotate_left
  · simp only [Act.put, List.setIfInBounds_toArray, List.set_cons_zero, List.set_cons_succ, i64_w, i32_w]
    rfl
  refine pure_ (i := 20) (N := some 51) (v := ?_) (a' := ?_) #[true, true, true, true, true, true, true, true, true, true, true, true, true, true, true, true, true, true, true, true, true, false, false, false, false, false, false, false, false, false, false, false, false, false, false, false, false, false, false, false, false] rfl rfl (by kernel_rfl) (fun _ _ _ h => h) (Or.inl ⟨by rfl, ?_⟩) ?_ ?_
  rotate_left
  · intro w'
    go_simp
    with_reducible rfl
  rotate_left
  · simp only [Act.put, List.setIfInBounds_toArray, List.set_cons_zero, List.set_cons_succ, i64_w, i32_w]
    rfl
  refine pure_ (i := 21) (N := some 52) (v := ?_) (a' := ?_) #[true, true, true, true, true, true, true, true, true, true, true, true, true, true, true, true, true, true, true, true, true, true, false, false, false, false, false, false, false, false, false, false, false, false, false, false, false, false, false, false, false] rfl rfl (by kernel_rfl) (fun _ _ _ h => h) (Or.inl ⟨by rfl, ?_⟩) ?_ ?_
  rotate_left
  · intro w'
    go_simp
    with_reducible rfl
  rotate_left
  · simp only [Act.put, List.setIfInBounds_toArray, List.set_cons_zero, List.set_cons_succ, i64_w, i32_w]
    rfl
  refine take_ (i := 22) (N := some 53) (v := ?_) (a' := ?_) #[true, true, true, true, true, true, true, true, true, true, true, true, true, true, true, true, true, true, true, true, true, true, true, false, false, false, false, false, false, false, false, false, false, false, false, false, false, false, false, false, false] rfl rfl (by kernel_rfl) (fun _ _ _ h => h) (Or.inl ⟨by rfl, ?_⟩) hHeld ?_ ?_
  rotate_left
  · rintro w' ⟨s0, s1, s2, s3, s4, s5, s6, s7, s8, s9, s10, s11, s12⟩
    go_simp
    with_reducible rfl
  rotate_left
  · simp only [Act.put, List.setIfInBounds_toArray, List.set_cons_zero, List.set_cons_succ, i64_w, i32_w]
    rfl
  refine pure_ (i := 23) (N := some 54) (v := ?_) (a' := ?_) #[true, true, true, true, true, true, true, true, true, true, true, true, true, true, true, true, true, true, true, true, true, true, true, true, false, false, false, false, false, false, false, false, false, false, false, false, false, false, false, false, false] rfl rfl (by kernel_rfl) (fun _ _ _ h => h) (Or.inl ⟨by rfl, ?_⟩) ?_ ?_
  rotate_left
  · intro w'
    go_simp
    with_reducible rfl
  rotate_left
  · simp only [Act.put, List.setIfInBounds_toArray, List.set_cons_zero, List.set_cons_succ, i64_w, i32_w]
    rfl
  refine pure_ (i := 24) (N := some 55) (v := ?_) (a' := ?_) #[true, true, true, true, true, true, true, true, true, true, true, true, true, true, true, true, true, true, true, true, true, true, true, true, true, false, false, false, false, false, false, false, false, false, false, false, false, false, false, false, false] rfl rfl (by kernel_rfl) (fun _ _ _ h => h) (Or.inl ⟨by rfl, ?_⟩) ?_ ?_
  rotate_left
  · intro w'
    go_simp
    with_reducible rfl
  rotate_left
  · simp only [Act.put, List.setIfInBounds_toArray, List.set_cons_zero, List.set_cons_succ, i64_w, i32_w]
    rfl
  refine pure_ (i := 25) (N := some 56) (v := ?_) (a' := ?_) #[true, true, true, true, true, true, true, true, true, true, true, true, true, true, true, true, true, true, true, true, true, true, true, true, true, true, false, false, false, false, false, false, false, false, false, false, false, false, false, false, false] rfl rfl (by kernel_rfl) (fun _ _ _ h => h) (Or.inl ⟨by rfl, ?_⟩) ?_ ?_
  rotate_left
  · intro w'
    go_simp
    with_reducible rfl
  rotate_left
  · simp only [Act.put, List.setIfInBounds_toArray, List.set_cons_zero, List.set_cons_succ, i64_w, i32_w]
    rfl
  refine pure_ (i := 26) (N := some 57) (v := ?_) (a' := ?_) #[true, true, true, true, true, true, true, true, true, true, true, true, true, true, true, true, true, true, true, true, true, true, true, true, true, true, true, false, false, false, false, false, false, false, false, false, false, false, false, false, false] rfl rfl (by kernel_rfl) (fun _ _ _ h => h) (Or.inl ⟨by rfl, ?_⟩) ?_ ?_
  rotate_left
  · intro w'
    go_simp
    with_reducible rfl
  rotate_left
  · simp only [Act.put, List.setIfInBounds_toArray, List.set_cons_zero, List.set_cons_succ, i64_w, i32_w]
    rfl
  refine pure_ (i := 27) (N := some 58) (v := ?_) (a' := ?_) #[true, true, true, true, true, true, true, true, true, true, true, true, true, true, true, true, true, true, true, true, true, true, true, true, true, true, true, true, false, false, false, false, false, false, false, false, false, false, false, false, false] rfl rfl (by kernel_rfl) (fun _ _ _ h => h) (Or.inl ⟨by rfl, ?_⟩) ?_ ?_
  rotate_left
  · intro w'
    go_simp
    with_reducible rfl
  rotate_left
  · simp only [Act.put, List.setIfInBounds_toArray, List.set_cons_zero, List.set_cons_succ, i64_w, i32_w]
    rfl
  refine take_ (i := 28) (N := some 59) (v := ?_) (a' := ?_) #[true, true, true, true, true, true, true, true, true, true, true, true, true, true, true, true, true, true, true, true, true, true, true, true, true, true, true, true, true, false, false, false, false, false, false, false, false, false, false, false, false] rfl rfl (by kernel_rfl) (fun _ _ _ h => h) (Or.inl ⟨by rfl, ?_⟩) hHeld ?_ ?_
  rotate_left
  · rintro w' ⟨s0, s1, s2, s3, s4, s5, s6, s7, s8, s9, s10, s11, s12⟩
    go_simp
    with_reducible rfl
  rotate_left
  · simp only [Act.put, List.setIfInBounds_toArray, List.set_cons_zero, List.set_cons_succ, i64_w, i32_w]
    rfl
  refine pure_ (i := 29) (N := some 60) (v := ?_) (a' := ?_) #[true, true, true, true, true, true, true, true, true, true, true, true, true, true, true, true, true, true, true, true, true, true, true, true, true, true, true, true, true, true, false, false, false, false, false, false, false, false, false, false, false] rfl rfl (by kernel_rfl) (fun _ _ _ h => h) (Or.inl ⟨by rfl, ?_⟩) ?_ ?_
  rotate_left
  · intro w'
    go_simp
    with_reducible rfl
  rotate_left
  · simp only [Act.put, List.setIfInBounds_toArray, List.set_cons_zero, List.set_cons_succ, i64_w, i32_w]
    rfl
  refine pure_ (i := 30) (N := some 61) (v := ?_) (a' := ?_) #[true, true, true, true, true, true, true, true, true, true, true, true, true, true, true, true, true, true, true, true, true, true, true, true, true, true, true, true, true, true, true, false, false, false, false, false, false, false, false, false, false] rfl rfl (by kernel_rfl) (fun _ _ _ h => h) (Or.inl ⟨by rfl, ?_⟩) ?_ ?_
  rotate_left
  · intro w'
    go_simp
    with_reducible rfl
  rotate_left
  · simp only [Act.put, List.setIfInBounds_toArray, List.set_cons_zero, List.set_cons_succ, i64_w, i32_w]
    rfl
  refine pure_ (i := 31) (N := some 62) (v := ?_) (a' := ?_) #[true, true, true, true, true, true, true, true, true, true, true, true, true, true, true, true, true, true, true, true, true, true, true, true, true, true, true, true, true, true, true, true, false, false, false, false, false, false, false, false, false] rfl rfl (by kernel_rfl) (fun _ _ _ h => h) (Or.inl ⟨by rfl, ?_⟩) ?_ ?_
  rotate_left
  · intro w'
    go_simp
    with_reducible rfl
  rotate_left
  · simp only [Act.put, List.setIfInBounds_toArray, List.set_cons_zero, List.set_cons_succ, i64_w, i32_w]
    rfl
  refine pure_ (i := 32) (N := some 63) (v := ?_) (a' := ?_) #[true, true, true, true, true, true, true, true, true, true, true, true, true, true, true, true, true, true, true, true, true, true, true, true, true, true, true, true, true, true, true, true, true, false, false, false, false, false, false, false, false] rfl rfl (by kernel_rfl) (fun _ _ _ h => h) (Or.inl ⟨by rfl, ?_⟩) ?_ ?_
  rotate_left
  · intro w'
    go_simp
    with_reducible rfl
  rotate_left
  · simp only [Act.put, List.setIfInBounds_toArray, List.set_cons_zero, List.set_cons_succ, i64_w, i32_w]
    rfl
  refine take_ (i := 33) (N := some 64) (v := ?_) (a' := ?_) #[true, true, true, true, true, true, true, true, true, true, true, true, true, true, true, true, true, true, true, true, true, true, true, true, true, true, true, true, true, true, true, true, true, true, false, false, false, false, false, false, false] rfl rfl (by kernel_rfl) (fun _ _ _ h => h) (Or.inl ⟨by rfl, ?_⟩) hHeld ?_ ?_
  rotate_left
  · rintro w' ⟨s0, s1, s2, s3, s4, s5, s6, s7, s8, s9, s10, s11, s12⟩
    go_simp
    with_reducible rfl
  rotate_left
  · simp only [Act.put, List.setIfInBounds_toArray, List.set_cons_zero, List.set_cons_succ, i64_w, i32_w]
    rfl
  refine pure_ (i := 34) (N := some 65) (v := ?_) (a' := ?_) #[true, true, true, true, true, true, true, true, true, true, true, true, true, true, true, true, true, true, true, true, true, true, true, true, true, true, true, true, true, true, true, true, true, true, true, false, false, false, false, false, false] rfl rfl (by kernel_rfl) (fun _ _ _ h => h) (Or.inl ⟨by rfl, ?_⟩) ?_ ?_
  rotate_left
  · intro w'
    go_simp
    with_reducible rfl
  rotate_left
  · simp only [Act.put, List.setIfInBounds_toArray, List.set_cons_zero, List.set_cons_succ, i64_w, i32_w]
    rfl
  refine pure_ (i := 35) (N := some 66) (v := ?_) (a' := ?_) #[true, true, true, true, true, true, true, true, true, true, true, true, true, true, true, true, true, true, true, true, true, true, true, true, true, true, true, true, true, true, true, true, true, true, true, true, false, false, false, false, false] rfl rfl (by kernel_rfl) (fun _ _ _ h => h) (Or.inl ⟨by rfl, ?_⟩) ?_ ?_
  rotate_left
  · intro w'
    go_simp
    with_reducible rfl
  rotate_left
  · simp only [Act.put, List.setIfInBounds_toArray, List.set_cons_zero, List.set_cons_succ, i64_w, i32_w]
    rfl
  refine pure_ (i := 36) (N := some 67) (v := ?_) (a' := ?_) #[true, true, true, true, true, true, true, true, true, true, true, true, true, true, true, true, true, true, true, true, true, true, true, true, true, true, true, true, true, true, true, true, true, true, true, true, true, false, false, false, false] rfl rfl (by kernel_rfl) (fun _ _ _ h => h) (Or.inl ⟨by rfl, ?_⟩) ?_ ?_
  rotate_left
  · intro w'
    go_simp
    with_reducible rfl
  rotate_left
  · simp only [Act.put, List.setIfInBounds_toArray, List.set_cons_zero, List.set_cons_succ, i64_w, i32_w]
    rfl
  refine pure_ (i := 37) (N := some 68) (v := ?_) (a' := ?_) #[true, true, true, true, true, true, true, true, true, true, true, true, true, true, true, true, true, true, true, true, true, true, true, true, true, true, true, true, true, true, true, true, true, true, true, true, true, true, false, false, false] rfl rfl (by kernel_rfl) (fun _ _ _ h => h) (Or.inl ⟨by rfl, ?_⟩) ?_ ?_
  rotate_left
  · intro w'
    go_simp
    with_reducible rfl
  rotate_left
  · simp only [Act.put, List.setIfInBounds_toArray, List.set_cons_zero, List.set_cons_succ, i64_w, i32_w]
    rfl
  refine take_ (i := 38) (N := some 69) (v := ?_) (a' := ?_) #[true, true, true, true, true, true, true, true, true, true, true, true, true, true, true, true, true, true, true, true, true, true, true, true, true, true, true, true, true, true, true, true, true, true, true, true, true, true, true, false, false] rfl rfl (by kernel_rfl) (fun _ _ _ h => h) (Or.inl ⟨by rfl, ?_⟩) hHeld ?_ ?_
  rotate_left
  · rintro w' ⟨s0, s1, s2, s3, s4, s5, s6, s7, s8, s9, s10, s11, s12⟩
    go_simp
    with_reducible rfl
  rotate_left
  · simp only [Act.put, List.setIfInBounds_toArray, List.set_cons_zero, List.set_cons_succ, i64_w, i32_w]
    rfl
  refine pure_ (i := 39) (N := some 70) (v := ?_) (a' := ?_) #[true, true, true, true, true, true, true, true, true, true, true, true, true, true, true, true, true, true, true, true, true, true, true, true, true, true, true, true, true, true, true, true, true, true, true, true, true, true, true, true, false] rfl rfl (by kernel_rfl) (fun _ _ _ h => h) (Or.inl ⟨by rfl, ?_⟩) ?_ ?_
  rotate_left
  · intro w'
    go_simp
    with_reducible rfl
  rotate_left
  · simp only [Act.put, List.setIfInBounds_toArray, List.set_cons_zero, List.set_cons_succ, i64_w, i32_w]
    rfl
  refine pure_ (i := 40) (N := some 71) (v := ?_) (a' := ?_) #[true, true, true, true, true, true, true, true, true, true, true, true, true, true, true, true, true, true, true, true, true, true, true, true, true, true, true, true, true, true, true, true, true, true, true, true, true, true, true, true, true] rfl rfl (by kernel_rfl) (fun _ _ _ h => h) (Or.inl ⟨by rfl, ?_⟩) ?_ ?_
  rotate_left
  · intro w'
    go_simp
    with_reducible rfl
  rotate_left
  · simp only [Act.put, List.setIfInBounds_toArray, List.set_cons_zero, List.set_cons_succ, i64_w, i32_w]
    rfl
  refine done_ (by kernel_rfl) ?_
  have hB10 := below_step hB8 hb10
  clear hHeldS hb8 hb9 hb10 hv8 hx8 hA8 hR8 hB8 hkw kw hq
  go_upto_region 8 with (first | (go_at_call 15; (with_reducible refine (pack_Num.calls n 0 n ⟨#[]⟩ [] _ rfl).mono ?_); rintro e w11 ⟨v3_, rfl, hr3, hb⟩; obtain ⟨A11, c11, rfl⟩ := Kd.R_slice hr3; have hB11 := Aside0.mk (below_step hB10 hb); clear hr3 hb) | (go_at_call 17; (with_reducible refine (pack_Str.calls s 1 0 s [] _ rfl).mono ?_); rintro e w12 ⟨v3_, rfl, hr3, hb⟩; obtain ⟨A12, c12, rfl⟩ := Kd.R_slice hr3; have hB12 := Aside0.mk (below_step hB11.out hb); clear hr3 hb))
  have hx := blk_alloc (blk_new w12 (.cells #[.int .i64 0, .int .i64 n, .string ⟨#[]⟩, .slice A11 0 c11] 26)) (.cells #[.int .i64 1, .int .i64 0, .string s, .slice A12 0 c12] 26)
  have hy := blk_new (w12.alloc (.cells #[.int .i64 0, .int .i64 n, .string ⟨#[]⟩, .slice A11 0 c11] 26)) (.cells #[.int .i64 1, .int .i64 0, .string s, .slice A12 0 c12] 26)
  have hB14 := below_alloc (below_alloc hB12.out (.cells #[.int .i64 0, .int .i64 n, .string ⟨#[]⟩, .slice A11 0 c11] 26)) (.cells #[.int .i64 1, .int .i64 0, .string s, .slice A12 0 c12] 26)
  generalize (w12.alloc (.cells #[.int .i64 0, .int .i64 n, .string ⟨#[]⟩, .slice A11 0 c11] 26)).alloc (.cells #[.int .i64 1, .int .i64 0, .string s, .slice A12 0 c12] 26) = w14 at hx hy hB14 ⊢
  have hz : (w12.alloc (.cells #[.int .i64 0, .int .i64 n, .string ⟨#[]⟩, .slice A11 0 c11] 26)).heap.size = w12.heap.size + 1 := Array.size_push _
  rw [hz] at hy
  (try rw [hz])
  clear hz hB12 hB11 hB10
  generalize w12.heap.size = gN at hx hy ⊢
  have a0 := (blk_cell hx 0).trans rfl
  have b0 := (blk_cell hy 0).trans rfl
  have a1 := (blk_cell hx 1).trans rfl
  have b1 := (blk_cell hy 1).trans rfl
  have a2 := (blk_cell hx 2).trans rfl
  have b2 := (blk_cell hy 2).trans rfl
  have a3 := (blk_cell hx 3).trans rfl
  have b3 := (blk_cell hy 3).trans rfl
  go_wp2
  go_ret
  exact ⟨rfl, hB14⟩
end Go.Proofs.Ytpbnfnaebdmagaa.Mk
