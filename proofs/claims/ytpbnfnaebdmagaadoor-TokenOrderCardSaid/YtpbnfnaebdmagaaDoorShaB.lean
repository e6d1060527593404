/-
  sha.State.Block, walked.
-/
import Derived.Test.YtpbnfnaebdmagaaDoorH1
import Derived.Deep.RegionHeld3
import Derived.Deep.WholeRow
import Derived.Deep.MidRow
namespace Go.Proofs.YtpbnfnaebdmagaaDoor.Sha
set_option linter.unusedVariables false
set_option linter.unusedSimpArgs false
open Go Go.RowKit Go.Proofs.YtpbnfnaebdmagaaDoorW.PrintWords Go.Proofs.YtpbnfnaebdmagaaDoorW.PrintLast Go.Proofs.YtpbnfnaebdmagaaDoorW.PrintMore
abbrev z8 : Array Value := #[.int .u32 0, .int .u32 0, .int .u32 0, .int .u32 0, .int .u32 0, .int .u32 0, .int .u32 0, .int .u32 0]
/-- the blocks of Block's variables -/
structure Fr (w wr : World) (S B : Array Value) (l : List Nat) : Prop where
  hs : wr.heap[w.heap.size]? = some (.cells S 115 (0, 0))
  hb : wr.heap[w.heap.size + 1]? = some (.cells B 119 (0, 0))
  hz : wr.heap[w.heap.size + 1 + 1]? = some (.cells z8 115 (0, 0))
  hw : wr.heap[w.heap.size + 1 + 1 + 1]? = some (.cells (arr .u32 l) 90 (0, 0))
  hB : Below w.heap.size w wr
theorem Fr.drew {w wr : World} {S B : Array Value} {l : List Nat} (h : Fr w wr S B l) : Fr w wr.drew S B l := ⟨h.hs, h.hb, h.hz, h.hw, below_drew1 h.hB⟩
theorem Fr.put {w wr : World} {S B : Array Value} {l : List Nat} (h : Fr w wr S B l) (t x : Nat) : Fr w (wr.setCell ⟨w.heap.size + 1 + 1 + 1, t, none⟩ (.int .u32 (x : Int))) S B (l.set t x) :=
  ⟨blk_far h.hs (by show _ ≠ w.heap.size + 1 + 1 + 1; omega) _, blk_far h.hb (by show _ ≠ w.heap.size + 1 + 1 + 1; omega) _, blk_far h.hz (by show _ ≠ w.heap.size + 1 + 1 + 1; omega) _, blk_put h.hw t _ (arr_set _ _ _ _), h.hB.setCell (by show w.heap.size ≤ w.heap.size + 1 + 1 + 1; omega) _⟩
theorem Fr.cw {w wr : World} {S B : Array Value} {l : List Nat} (h : Fr w wr S B l) (i : Nat) (hi : i < l.length) : wr.cell? ⟨w.heap.size + 1 + 1 + 1, i, none⟩ = some (.int .u32 (G l i : Nat)) :=
  (blk_cell h.hw i).trans (arr_at _ _ _ hi)
theorem Fr.cb {w wr : World} {S : Array Value} {b l : List Nat} (h : Fr w wr S (arr .u8 b) l) (i : Nat) (hi : i < b.length) : wr.cell? ⟨w.heap.size + 1, i, none⟩ = some (.int .u8 (G b i : Nat)) :=
  (blk_cell h.hb i).trans (arr_at _ _ _ hi)
theorem i64w (a : Int) (h : 0 ≤ a ∧ a ≤ 1000000) : IntKind.i64.wrap a = a := IntWalk.i64_in _ (by omega)
/-- a turn to the right, under a name -/
theorem turn_k (x : Nat) (k : Nat) (K : Int) (hK : K = (k : Int)) (hx : x < 4294967296) (h1 : 1 ≤ k) (h2 : k ≤ 31) : ∃ c : Nat, (∀ w : World, Calls Tryd.prog 71 #[.int .u32 (x : Int), .int .i64 K] w fun e w' => e = .returned (.int .u32 (c : Int)) ∧ w' = w) ∧ c < 4294967296 ∧ Aside0 (c = rorN x k) :=
  ⟨rorN x k, fun w => by rw [hK]; exact right_any x k w hx h1 h2, rorN_lt x k hx, ⟨rfl⟩⟩
theorem eshr (a m : Nat) (M : Int) (hM : M = (m : Int)) (ha : a < 4294967296) : ∃ c : Nat, (a : Int) / M = (c : Int) ∧ c < 4294967296 ∧ Aside0 (c = a / m) :=
  ⟨a / m, by rw [hM]; exact (Int.natCast_ediv a m).symm, Nat.lt_of_le_of_lt (Nat.div_le_self _ _) ha, ⟨rfl⟩⟩
theorem not_nat (a : Nat) (h : a < 4294967296) : 4294967295 ^^^ a = 4294967295 - a := by
  have z := congrArg BitVec.toNat (BitVec.allOnes_xor (x := BitVec.ofNat 32 a))
  rw [BitVec.toNat_xor, BitVec.toNat_not, BitVec.toNat_allOnes, BitVec.toNat_ofNat, Nat.mod_eq_of_lt h] at z
  exact z
theorem enot (a : Nat) (ha : a < 4294967296) : ∃ c : Nat, bits .xor .u32 (if IntKind.u32.signed = true then -1 else IntKind.u32.max) (a : Int) = (c : Int) ∧ c < 4294967296 ∧ Aside0 (c = 4294967295 - a) :=
  ⟨4294967295 - a, by rw [show (if IntKind.u32.signed = true then -1 else IntKind.u32.max) = ((4294967295 : Nat) : Int) from by decide, u32_xor_nat _ _ (by decide) ha, not_nat a ha], by omega, ⟨rfl⟩⟩
theorem ewrap (a : Nat) (h : a < 4294967296) : IntKind.u32.wrap (a : Int) = (a : Int) := by rw [wrapN, Nat.mod_eq_of_lt h]
theorem eshl (a m : Nat) (M : Int) (hM : M = (m : Int)) : ∃ c : Nat, IntKind.u32.wrap ((a : Int) * M) = (c : Int) ∧ c < 4294967296 ∧ Aside0 (c = a * m % 4294967296) :=
  ⟨a * m % 4294967296, by rw [hM, ← wrapN]; simp, Nat.mod_lt _ (by decide), ⟨rfl⟩⟩
theorem run_index_arr {P : Program} {T e : TypeId} {n i : Nat} {cs : Array Value} {v : Value} {k : IntKind} {d : TypeDesc} (h : P.underlying T = some (.array n e)) (he : P.underlying e = some d) (hd : (match d with | .struct _ | .array _ _ => true | _ => false) = false) (hi : (P.info? e).map (·.size) = some 1) (hv : cs[i]? = some v) (hn : i < n) (w : World) :
    (Instr.index T (.agg cs) (.int k (i : Int))).run P w = .ok v w := by
  have h0 : (0 : Int) ≤ (i : Int) ∧ (i : Int) < (n : Int) := by omega
  have hagg : (isAgg e).run P w = .ok false w := by cases d <;> simp_all [isAgg, run_underlying he]
  cases hq : P.info? e with
  | none => simp [hq] at hi
  | some j =>
    have hs : j.size = 1 := by simpa [hq] using hi
    simp [Instr.index, Sem.run_bind, run_underlying h, asIntOf, h0.1, h0.2, sizeOf, typeInfo, hq, hs, part, hagg, hv, Result.andThen]
    intro h1; omega
/-- the blocks behind the words -/
structure Fs (w wr : World) (s l : List Nat) (g : Nat) (v : List Nat) : Prop where
  hs : wr.heap[w.heap.size]? = some (.cells (arr .u32 s) 115 (0, 0))
  hz : wr.heap[w.heap.size + 1 + 1]? = some (.cells z8 115 (0, 0))
  hw : wr.heap[w.heap.size + 1 + 1 + 1]? = some (.cells (arr .u32 l) 90 (0, 0))
  hv : wr.heap[g]? = some (.cells (arr .u32 v) 115 (0, 0))
  hB : Below w.heap.size w wr
  hg : w.heap.size + 1 + 1 + 1 < g
section
variable {w wr : World} {s l v : List Nat} {g : Nat}
theorem Fr.alloc {S B : Array Value} (h : Fr w wr S B l) (hS : S = arr .u32 s) (V : Array Value) (hV : V = arr .u32 v) : Fs w (wr.alloc (.cells V 115)) s l wr.heap.size v := by
  subst hS hV
  exact ⟨blk_alloc h.hs _, blk_alloc h.hz _, blk_alloc h.hw _, blk_new _ _, below_alloc h.hB _, blk_lt h.hw⟩
theorem Fs.drew (h : Fs w wr s l g v) : Fs w wr.drew s l g v := ⟨h.hs, h.hz, h.hw, h.hv, below_drew1 h.hB, h.hg⟩
theorem Fs.cw (h : Fs w wr s l g v) (i : Nat) (hi : i < l.length) : wr.cell? ⟨w.heap.size + 1 + 1 + 1, i, none⟩ = some (.int .u32 (G l i : Nat)) := (blk_cell h.hw i).trans (arr_at _ _ _ hi)
theorem Fs.cv (h : Fs w wr s l g v) (i : Nat) (hi : i < v.length) : wr.cell? ⟨g, i, none⟩ = some (.int .u32 (G v i : Nat)) := (blk_cell h.hv i).trans (arr_at _ _ _ hi)
theorem Fs.cs (h : Fs w wr s l g v) (i : Nat) (hi : i < s.length) : wr.cell? ⟨w.heap.size, i, none⟩ = some (.int .u32 (G s i : Nat)) := (blk_cell h.hs i).trans (arr_at _ _ _ hi)
theorem Fs.put (h : Fs w wr s l g v) (t x : Nat) : Fs w (wr.setCell ⟨w.heap.size, t, none⟩ (.int .u32 (x : Int))) (s.set t x) l g v :=
  ⟨blk_put h.hs t _ (arr_set _ _ _ _), blk_far h.hz (by show _ ≠ w.heap.size; omega) _, blk_far h.hw (by show _ ≠ w.heap.size; omega) _, blk_far h.hv (by show _ ≠ w.heap.size; have := h.hg; omega) _, h.hB.setCell (Nat.le_refl _) _, h.hg⟩
theorem heap_setCells_far (b k : Nat) (h : k ≠ b) : ∀ (vs : List Value) (o : Nat) (w : World), (w.setCells b o vs).heap[k]? = w.heap[k]?
  | [], _, _ => rfl
  | v :: r, o, w => by rw [World.setCells, heap_setCells_far b k h r, Below.heap_setCell _ _ _ _ h]
theorem below_setCells {B b : Nat} {u : World} (hb : B ≤ b) : ∀ (vs : List Value) (o : Nat) (w : World), Below B u w → Below B u (w.setCells b o vs)
  | [], _, _, h => h
  | v :: r, o, w, h => by rw [World.setCells]; exact below_setCells hb r _ _ (h.setCell (p := ⟨b, o, none⟩) hb _)
theorem Fs.row {v0 v1 v2 v3 v4 v5 v6 v7 a b c d e f i j : Nat} (h : Fs w wr s l g [v0, v1, v2, v3, v4, v5, v6, v7]) :
    Fs w (wr.setCells g 0 [.int .u32 (a : Int), .int .u32 (b : Int), .int .u32 (c : Int), .int .u32 (d : Int), .int .u32 (e : Int), .int .u32 (f : Int), .int .u32 (i : Int), .int .u32 (j : Int)]) s l g [a, b, c, d, e, f, i, j] := by
  have hg := h.hg
  refine ⟨?_, ?_, ?_, ?_, ?_, hg⟩
  · rw [heap_setCells_far _ _ (by omega)]; exact h.hs
  · rw [heap_setCells_far _ _ (by omega)]; exact h.hz
  · rw [heap_setCells_far _ _ (by omega)]; exact h.hw
  · simp only [World.setCells]
    have z := blk_put (blk_put (blk_put (blk_put (blk_put (blk_put (blk_put (blk_put h.hv 0 _ (arr_set _ _ _ a)) 1 _ (arr_set _ _ _ b)) 2 _ (arr_set _ _ _ c)) 3 _ (arr_set _ _ _ d)) 4 _ (arr_set _ _ _ e)) 5 _ (arr_set _ _ _ f)) 6 _ (arr_set _ _ _ i)) 7 _ (arr_set _ _ _ j)
    simp only [List.set_cons_zero, List.set_cons_succ] at z
    exact z
  · exact below_setCells (by omega) _ _ _ h.hB
theorem Fs.out (h : Fs w wr s l g v) {a b c d e f i j : Nat} :
    (wr.setCells (w.heap.size + 1 + 1) 0 [.int .u32 (a : Int), .int .u32 (b : Int), .int .u32 (c : Int), .int .u32 (d : Int), .int .u32 (e : Int), .int .u32 (f : Int), .int .u32 (i : Int), .int .u32 (j : Int)]).heap[w.heap.size + 1 + 1]? = some (.cells (arr .u32 [a, b, c, d, e, f, i, j]) 115 (0, 0)) ∧
    Below w.heap.size w (wr.setCells (w.heap.size + 1 + 1) 0 [.int .u32 (a : Int), .int .u32 (b : Int), .int .u32 (c : Int), .int .u32 (d : Int), .int .u32 (e : Int), .int .u32 (f : Int), .int .u32 (i : Int), .int .u32 (j : Int)]) := by
  refine ⟨?_, below_setCells (by omega) _ _ _ h.hB⟩
  simp only [World.setCells]
  have hz : wr.heap[w.heap.size + 1 + 1]? = some (.cells (arr .u32 [0, 0, 0, 0, 0, 0, 0, 0]) 115 (0, 0)) := h.hz
  have z := blk_put (blk_put (blk_put (blk_put (blk_put (blk_put (blk_put (blk_put hz 0 _ (arr_set _ _ _ a)) 1 _ (arr_set _ _ _ b)) 2 _ (arr_set _ _ _ c)) 3 _ (arr_set _ _ _ d)) 4 _ (arr_set _ _ _ e)) 5 _ (arr_set _ _ _ f)) 6 _ (arr_set _ _ _ i)) 7 _ (arr_set _ _ _ j)
  simp only [List.set_cons_zero, List.set_cons_succ] at z
  exact z
end
set_option maxHeartbeats 4000000 in
set_option maxRecDepth 1000000 in
theorem block_walk (ks s b : List Nat) (w : World) (hk : ks.length = 64) (hkb : bnd ks 4294967296) (hg : w.rangeAt 0 0 (ks.map fun n : Nat => Value.int .u32 (n : Int))) (hs : s.length = 8) (hb : b.length = 64) (hsb : bnd s 4294967296) (hbb : bnd b 256) :
    Calls Tryd.prog 61 #[.agg (arr .u32 s), .agg (arr .u8 b)] w fun e w' => e = .returned (.agg (arr .u32 (block ks s b))) ∧ Below w.heap.size w w' := by
  have HS := Aside0.mk hs
  have HB := Aside0.mk hb
  have HK := Aside0.mk hk
  have HG := Aside0.mk hg
  clear hs hb hk hg
  generalize hc1 : arr .u32 s = S
  generalize hc2 : arr .u8 b = B
  have HC1 := Aside0.mk hc1
  have HC2 := Aside0.mk hc2
  clear hc1 hc2
  go_enter Tryd.func61, Tryd.ntmps61
  go_upto_region 2 with fail
  have HF : Aside0 (Fr w ((((w.alloc (.cells S 115)).alloc (.cells B 119)).alloc (.cells z8 115)).alloc (.cells (arr .u32 (fill b 0)) 90)) S B (fill b 0)) := by
    refine ⟨⟨?_, ?_, ?_, ?_, ?_⟩⟩
    · exact blk_alloc (blk_alloc (blk_alloc (blk_new w _) _) _) _
    · have h := blk_alloc (blk_alloc (blk_new (w.alloc (.cells S 115)) (.cells B 119)) (.cells z8 115)) (.cells (arr .u32 (fill b 0)) 90)
      simpa using h
    · have h := blk_alloc (blk_new ((w.alloc (.cells S 115)).alloc (.cells B 119)) (.cells z8 115)) (.cells (arr .u32 (fill b 0)) 90)
      simpa using h
    · have h := blk_new (((w.alloc (.cells S 115)).alloc (.cells B 119)).alloc (.cells z8 115)) (.cells (arr .u32 (fill b 0)) 90)
      simpa using h
    · exact below_alloc (below_alloc (below_alloc (below_alloc (Below.refl _ _) _) _) _) _
  have he : arr .u32 (fill b 0) = #[.int .u32 0, .int .u32 0, .int .u32 0, .int .u32 0, .int .u32 0, .int .u32 0, .int .u32 0, .int .u32 0, .int .u32 0, .int .u32 0, .int .u32 0, .int .u32 0, .int .u32 0, .int .u32 0, .int .u32 0, .int .u32 0, .int .u32 0, .int .u32 0, .int .u32 0, .int .u32 0, .int .u32 0, .int .u32 0, .int .u32 0, .int .u32 0, .int .u32 0, .int .u32 0, .int .u32 0, .int .u32 0, .int .u32 0, .int .u32 0, .int .u32 0, .int .u32 0, .int .u32 0, .int .u32 0, .int .u32 0, .int .u32 0, .int .u32 0, .int .u32 0, .int .u32 0, .int .u32 0, .int .u32 0, .int .u32 0, .int .u32 0, .int .u32 0, .int .u32 0, .int .u32 0, .int .u32 0, .int .u32 0, .int .u32 0, .int .u32 0, .int .u32 0, .int .u32 0, .int .u32 0, .int .u32 0, .int .u32 0, .int .u32 0, .int .u32 0, .int .u32 0, .int .u32 0, .int .u32 0, .int .u32 0, .int .u32 0, .int .u32 0, .int .u32 0] := by rfl
  rw [← he]
  clear he
  generalize (((w.alloc (.cells S 115)).alloc (.cells B 119)).alloc (.cells z8 115)).alloc (.cells (arr .u32 (fill b 0)) 90) = W at HF ⊢
  go_wp2
  go_loopw [17] (fun v17 wr => ∃ t : Nat, t ≤ 64 ∧ v17 = .int .i64 t ∧ Aside0 (Fr w wr S B (fill b t))) (fun v17 _ => 64 - (intOf v17).toNat)
  case atStart => exact ⟨0, by omega, rfl, HF⟩
  case round =>
    clear HF
    obtain ⟨t, ht, rfl, FR⟩ := hrel
    have ht0 : (0 : Int) ≤ (t : Int) := by omega
    by_cases hlt : t < 64
    · by_cases h16 : t < 16
      · have d1 : (t : Int) < 64 := by omega
        have d2 : (t : Int) < 16 := by omega
        go_upto_region 6 with fail
        have hc := HC2.out
        subst hc
        have x0 := FR.out.drew.cb (4 * t) (by rw [HB.out]; omega)
        have x1 := FR.out.drew.cb (4 * t + 1) (by rw [HB.out]; omega)
        have x2 := FR.out.drew.cb (4 * t + 2) (by rw [HB.out]; omega)
        have x3 := FR.out.drew.cb (4 * t + 3) (by rw [HB.out]; omega)
        have y0 : (0 : Int) ≤ 4 * (t : Int) ∧ 4 * (t : Int) < 64 := by omega
        have y1 : (0 : Int) ≤ 4 * (t : Int) + 1 ∧ 4 * (t : Int) + 1 < 64 := by omega
        have y2 : (0 : Int) ≤ 4 * (t : Int) + 2 ∧ 4 * (t : Int) + 2 < 64 := by omega
        have y3 : (0 : Int) ≤ 4 * (t : Int) + 3 ∧ 4 * (t : Int) + 3 < 64 := by omega
        have gb := fun i => G_lt hbb (by decide : 0 < 256) i
        have b0 := gb (4 * t)
        have b1 := gb (4 * t + 1)
        have b2 := gb (4 * t + 2)
        have b3 := gb (4 * t + 3)
        clear gb
        have hfirst : Aside0 (first b t = ((G b (4 * t) * 16777216 % 4294967296 ||| G b (4 * t + 1) * 65536 % 4294967296) ||| G b (4 * t + 2) * 256 % 4294967296) ||| G b (4 * t + 3)) := ⟨rfl⟩
        generalize G b (4 * t) = g0 at x0 b0 hfirst
        generalize G b (4 * t + 1) = g1 at x1 b1 hfirst
        generalize G b (4 * t + 2) = g2 at x2 b2 hfirst
        generalize G b (4 * t + 3) = g3 at x3 b3 hfirst
        have e0 := ewrap g0 (by omega)
        have e1 := ewrap g1 (by omega)
        have e2 := ewrap g2 (by omega)
        have e3 := ewrap g3 (by omega)
        obtain ⟨h0, f0, l0, m0⟩ := eshl g0 16777216 16777216 rfl
        obtain ⟨h1, f1, l1, m1⟩ := eshl g1 65536 65536 rfl
        obtain ⟨h2, f2, l2, m2⟩ := eshl g2 256 256 rfl
        obtain ⟨o1, p1, q1, r1⟩ := eor h0 h1 l0 l1
        obtain ⟨o2, p2, q2, r2⟩ := eor o1 h2 q1 l2
        obtain ⟨o3, p3, q3, r3⟩ := eor o2 g3 q2 (by omega)
        have hz : Aside0 (o3 = next b (fill b t) t) := ⟨by rw [next, if_pos h16, hfirst.out, r3.out, r2.out, r1.out, m0.out, m1.out, m2.out]⟩
        clear r3 r2 r1 m0 m1 m2 l0 l1 l2 q1 q2 hfirst b0 b1 b2 b3
        have k0 : IntKind.i64.wrap (4 * (t : Int)) = 4 * (t : Int) := i64w _ (by omega)
        have k1 : IntKind.i64.wrap (4 * (t : Int) + 1) = 4 * (t : Int) + 1 := i64w _ (by omega)
        have k2 : IntKind.i64.wrap (4 * (t : Int) + 2) = 4 * (t : Int) + 2 := i64w _ (by omega)
        have k3 : IntKind.i64.wrap (4 * (t : Int) + 3) = 4 * (t : Int) + 3 := i64w _ (by omega)
        have n0 : (4 * (t : Int)).toNat = 4 * t := by omega
        have n1 : (4 * (t : Int) + 1).toNat = 4 * t + 1 := by omega
        have n2 : (4 * (t : Int) + 2).toNat = 4 * t + 2 := by omega
        have n3 : (4 * (t : Int) + 3).toNat = 4 * t + 3 := by omega
        go_still_tail 31, (by kernel_rfl)
        clear x0 x1 x2 x3 y0 y1 y2 y3 e0 e1 e2 e3 f0 f1 f2 p1 p2 p3 k0 k1 k2 k3 n0 n1 n2 n3
        change wpList _ _ _ _ _ wr.drew
        have FR2 := Aside0.mk FR.out.drew
        clear FR
        generalize wr.drew = w2 at FR2 ⊢
        have hfz : w2.frozen? ⟨w.heap.size + 1 + 1 + 1, t, none⟩ = false := blk_frozen FR2.out.hw t
        have hcl := FR2.out.cw t (by rw [(fill_ok b hbb t).1]; omega)
        have FR3 : Aside0 (Fr w (w2.setCell ⟨w.heap.size + 1 + 1 + 1, t, none⟩ (.int .u32 (o3 : Int))) S (arr .u8 b) (fill b (t + 1))) := ⟨by rw [fill, ← hz.out]; exact FR2.out.put t o3⟩
        go_wp2
        go_roundw
        case rel => exact ⟨t + 1, by omega, by go_num, FR3⟩
        case measure => simp [intOf]; omega
      · have d1 : (t : Int) < 64 := by omega
        have d2 : ¬ (t : Int) < 16 := by omega
        have hlen := (fill_ok b hbb t).1
        have hbd := (fill_ok b hbb t).2
        go_upto_region 7 with fail
        have x0 := FR.out.drew.cw (t - 15) (by omega)
        have x1 := FR.out.drew.cw (t - 2) (by omega)
        have a0 : (15 : Int) ≤ (t : Int) := by omega
        have a1 : (2 : Int) ≤ (t : Int) := by omega
        have a2 : (t : Int) - 15 < 64 := by omega
        have a3 : (t : Int) - 2 < 64 := by omega
        have k0 : IntKind.i64.wrap ((t : Int) - 15) = (t : Int) - 15 := IntWalk.i64_in _ (by omega)
        have k1 : IntKind.i64.wrap ((t : Int) - 2) = (t : Int) - 2 := IntWalk.i64_in _ (by omega)
        have n0 : ((t : Int) - 15).toNat = t - 15 := by omega
        have n1 : ((t : Int) - 2).toNat = t - 2 := by omega
        have hlater : Aside0 (next b (fill b t) t = (((((rorN (G (fill b t) (t - 2)) 17 ^^^ rorN (G (fill b t) (t - 2)) 19) ^^^ G (fill b t) (t - 2) / 1024) + G (fill b t) (t - 7)) % 4294967296 + ((rorN (G (fill b t) (t - 15)) 7 ^^^ rorN (G (fill b t) (t - 15)) 18) ^^^ G (fill b t) (t - 15) / 8)) % 4294967296 + G (fill b t) (t - 16)) % 4294967296) := ⟨by rw [next, if_neg h16, later]⟩
        have HFR := Aside0.mk FR.out.drew
        have x2 := HFR.out.drew.cw (t - 7) (by omega)
        have x3 := HFR.out.drew.cw (t - 16) (by omega)
        have bx := G_lt hbd (by decide) (t - 15)
        have by_ := G_lt hbd (by decide) (t - 2)
        have bz := G_lt hbd (by decide) (t - 7)
        have bu := G_lt hbd (by decide) (t - 16)
        generalize G (fill b t) (t - 15) = x at x0 hlater bx
        generalize G (fill b t) (t - 2) = y at x1 hlater by_
        generalize G (fill b t) (t - 7) = z at x2 hlater bz
        generalize G (fill b t) (t - 16) = u at x3 hlater bu
        clear FR
        go_still (by kernel_rfl)
        clear x0 x1 a0 a1 a2 a3 k0 k1 n0 n1
        change Exit.then _ _ _ _ wr.drew
        have FR := HFR
        clear HFR
        generalize wr.drew = w2 at FR x2 x3 ⊢
        obtain ⟨r1, c1, q1, g1⟩ := turn_k y 17 17 rfl by_ (by decide) (by decide)
        obtain ⟨r2, c2, q2, g2⟩ := turn_k y 19 19 rfl by_ (by decide) (by decide)
        obtain ⟨r3, e3, q3, g3⟩ := exor r1 r2 q1 q2
        obtain ⟨r4, e4, q4, g4⟩ := eshr y 1024 1024 rfl by_
        obtain ⟨r5, e5, q5, g5⟩ := exor r3 r4 q3 q4
        obtain ⟨r6, e6, q6, g6⟩ := eadd r5 z
        obtain ⟨r7, c7, q7, g7⟩ := turn_k x 7 7 rfl bx (by decide) (by decide)
        obtain ⟨r8, c8, q8, g8⟩ := turn_k x 18 18 rfl bx (by decide) (by decide)
        obtain ⟨r9, e9, q9, g9⟩ := exor r7 r8 q7 q8
        obtain ⟨s1, e10, q10, g10⟩ := eshr x 8 8 rfl bx
        obtain ⟨s2, e11, q11, g11⟩ := exor r9 s1 q9 q10
        obtain ⟨s3, e12, q12, g12⟩ := eadd r6 s2
        obtain ⟨s4, e13, q13, g13⟩ := eadd s3 u
        have hz : Aside0 (s4 = next b (fill b t) t) := ⟨by rw [hlater.out, g13.out, g12.out, g11.out, g10.out, g9.out, g8.out, g7.out, g6.out, g5.out, g4.out, g3.out, g2.out, g1.out]⟩
        clear q1 q2 q3 q4 q5 q6 q7 q8 q9 q10 q11 q12 q13 g1 g2 g3 g4 g5 g6 g7 g8 g9 g10 g11 g12 g13 hlater bx by_ bz bu
        have a0 : (7 : Int) ≤ (t : Int) := by omega
        have a1 : (16 : Int) ≤ (t : Int) := by omega
        have a2 : (t : Int) - 7 < 64 := by omega
        have a3 : (t : Int) - 16 < 64 := by omega
        have k0 : IntKind.i64.wrap ((t : Int) - 7) = (t : Int) - 7 := IntWalk.i64_in _ (by omega)
        have k1 : IntKind.i64.wrap ((t : Int) - 16) = (t : Int) - 16 := IntWalk.i64_in _ (by omega)
        have n0 : ((t : Int) - 7).toNat = t - 7 := by omega
        have n1 : ((t : Int) - 16).toNat = t - 16 := by omega
        go_upto_region 8 with fail
        refine wp_region_still_tail 29 (by kernel_rfl) (by kernel_rfl) ?_
        simp only [List.take_succ_cons, List.take_zero, List.drop_succ_cons, List.drop_zero]
        iterate 2 still_step
        still_call (c1 _)
        still_step
        still_call (c2 _)
        iterate 10 still_step
        still_call (c7 _)
        still_step
        still_call (c8 _)
        iterate 11 still_step
        refine wpStill_nil ?_
        clear x2 x3 a0 a1 a2 a3 k0 k1 n0 n1 c1 c2 c7 c8 e3 e4 e5 e6 e9 e10 e11 e12 e13
        change wpList _ _ _ _ _ w2.drew
        have FR2 := Aside0.mk FR.out.drew
        clear FR
        generalize w2.drew = w3 at FR2 ⊢
        have hfz : w3.frozen? ⟨w.heap.size + 1 + 1 + 1, t, none⟩ = false := blk_frozen FR2.out.hw t
        have hcl := FR2.out.cw t (by omega)
        have FR3 : Aside0 (Fr w (w3.setCell ⟨w.heap.size + 1 + 1 + 1, t, none⟩ (.int .u32 (s4 : Int))) S B (fill b (t + 1))) := ⟨by rw [fill, ← hz.out]; exact FR2.out.put t s4⟩
        clear hlen hbd
        go_wp2
        go_roundw
        case rel => exact ⟨t + 1, by omega, by go_num, FR3⟩
        case measure => simp [intOf]; omega
    · obtain rfl : t = 64 := by omega
      clear ht ht0 hlt
      go_upto_region 10 with fail
      have hsL := (Tryd.underlying115 : Tryd.prog.underlying 115 = _)
      have FR2 := FR
      obtain ⟨s0, s1, s2, s3, s4, s5, s6, s7, hse⟩ := eight HS.out
      have hse := Aside0.mk hse
      have hS : S = #[.int .u32 (s0 : Int), .int .u32 (s1 : Int), .int .u32 (s2 : Int), .int .u32 (s3 : Int), .int .u32 (s4 : Int), .int .u32 (s5 : Int), .int .u32 (s6 : Int), .int .u32 (s7 : Int)] := by rw [← HC1.out, hse.out]; rfl
      subst hS
      go_upto_region 11 with (refine wpList_load_row rfl 115 (.tmp 2) rfl w.heap.size rfl 115 _ (0, 0) _ FR2.out.hs hsL rfl (by kernel_rfl) ?_)
      have hz : Aside0 (Fs w (wr.alloc (.cells #[.int .u32 (s0 : Int), .int .u32 (s1 : Int), .int .u32 (s2 : Int), .int .u32 (s3 : Int), .int .u32 (s4 : Int), .int .u32 (s5 : Int), .int .u32 (s6 : Int), .int .u32 (s7 : Int)] 115)) s (fill b 64) wr.heap.size (vst ks (fill b 64) s 0)) := ⟨FR.out.alloc HC1.out.symm _ HC1.out.symm⟩
      have hgr : Aside0 ((wr.alloc (.cells #[.int .u32 (s0 : Int), .int .u32 (s1 : Int), .int .u32 (s2 : Int), .int .u32 (s3 : Int), .int .u32 (s4 : Int), .int .u32 (s5 : Int), .int .u32 (s6 : Int), .int .u32 (s7 : Int)] 115)).rangeAt 0 0 (ks.map fun n : Nat => Value.int .u32 (n : Int))) := ⟨fun j v hj => (hz.out.hB.cell (World.block_lt_of_cell? w _ (HG.out j v hj))).trans (HG.out j v hj)⟩
      generalize wr.heap.size = g at hz ⊢
      generalize wr.alloc (.cells #[.int .u32 (s0 : Int), .int .u32 (s1 : Int), .int .u32 (s2 : Int), .int .u32 (s3 : Int), .int .u32 (s4 : Int), .int .u32 (s5 : Int), .int .u32 (s6 : Int), .int .u32 (s7 : Int)] 115) = w2 at hz hgr ⊢
      clear FR FR2 HC1 hse hsL
      have hkL := (Tryd.underlying90 : Tryd.prog.underlying 90 = _)
      have hi64 : (Tryd.prog.info? 90).map (·.size) = some (ks.map fun n : Nat => Value.int .u32 (n : Int)).length := by rw [List.length_map, HK.out]; kernel_rfl
      go_upto_block 2 with (refine wpList_load_mid rfl 90 (.global 0) rfl 0 0 rfl (ks.map fun n : Nat => Value.int .u32 (n : Int)) _ hgr.out hkL rfl hi64 ?_)
      clear hi64
      go_wp2
      go_loopw [93] (fun v93 wr => ∃ t : Nat, t ≤ 64 ∧ v93 = .int .i64 t ∧ Aside0 (Fs w wr s (fill b 64) g (vst ks (fill b 64) s t))) (fun v93 _ => 64 - (intOf v93).toNat)
      case atStart => exact ⟨0, by omega, rfl, hz⟩
      case round =>
        clear hz hgr
        obtain ⟨t, ht, rfl, FS⟩ := hrel
        have ht0 : (0 : Int) ≤ (t : Int) := by omega
        by_cases hlt : t < 64
        · have d1 : (t : Int) < 64 := by omega
          have ix : ∀ w : World, (Instr.index 90 (.agg (ks.map fun n : Nat => Value.int .u32 (n : Int)).toArray) (.int .i64 (t : Int))).run Tryd.prog w = .ok (.int .u32 (G ks t : Nat)) w := run_index_arr (P := Tryd.prog) (k := .i64) hkL (Tryd.underlying89 : Tryd.prog.underlying 89 = _) rfl (by kernel_rfl) (arr_at .u32 ks t (by rw [HK.out]; exact hlt)) hlt
          have bk := G_lt hkb (by decide) t
          obtain ⟨v0, v1, v2, v3, v4, v5, v6, v7, hv⟩ := eight (vst_ok ks (fill b 64) s HS.out hsb t).1
          have hvb := (vst_ok ks (fill b 64) s HS.out hsb t).2
          have hrnd : Aside0 (vst ks (fill b 64) s (t + 1) = rnd (G ks t) (G (fill b 64) t) [v0, v1, v2, v3, v4, v5, v6, v7]) := ⟨by rw [vst, hv]⟩
          rw [hv] at FS hvb
          clear hv
          have hb0 : v0 < 4294967296 := hvb _ (by simp)
          have hb1 : v1 < 4294967296 := hvb _ (by simp)
          have hb2 : v2 < 4294967296 := hvb _ (by simp)
          have hb3 : v3 < 4294967296 := hvb _ (by simp)
          have hb4 : v4 < 4294967296 := hvb _ (by simp)
          have hb5 : v5 < 4294967296 := hvb _ (by simp)
          have hb6 : v6 < 4294967296 := hvb _ (by simp)
          have hb7 : v7 < 4294967296 := hvb _ (by simp)
          have bw := G_lt (fill_ok b hbb 64).2 (by decide) t
          have hlen := (fill_ok b hbb 64).1
          generalize G ks t = kt at ix bk hrnd
          go_upto_region 14 with fail
          have x0 := FS.out.drew.cv 0 (by simp)
          have x4 := FS.out.drew.cv 4 (by simp)
          go_still (by kernel_rfl)
          clear x0 x4
          change Exit.then _ _ _ _ wr.drew
          have FS := Aside0.mk FS.out.drew
          generalize wr.drew = w3 at FS ⊢
          go_upto_region 15 with fail
          have x7 := FS.out.drew.cv 7 (by simp)
          have x5 := FS.out.drew.cv 5 (by simp)
          have x6 := FS.out.drew.cv 6 (by simp)
          have xw := FS.out.drew.cw t (by omega)
          obtain ⟨wt, hwt⟩ : ∃ x, G (fill b 64) t = x := ⟨_, rfl⟩
          rw [hwt] at xw bw
          have hrnd : Aside0 (vst ks (fill b 64) s (t + 1) = rnd kt wt [v0, v1, v2, v3, v4, v5, v6, v7]) := ⟨by rw [← hwt]; exact hrnd.out⟩
          clear hwt
          obtain ⟨r1, c1, q1, g1⟩ := turn_k v4 6 6 rfl hb4 (by decide) (by decide)
          obtain ⟨r2, c2, q2, g2⟩ := turn_k v4 11 11 rfl hb4 (by decide) (by decide)
          obtain ⟨r3, e3, q3, g3⟩ := exor r1 r2 q1 q2
          obtain ⟨r4, c4, q4, g4⟩ := turn_k v4 25 25 rfl hb4 (by decide) (by decide)
          obtain ⟨r5, e5, q5, g5⟩ := exor r3 r4 q3 q4
          obtain ⟨r6, e6, q6, g6⟩ := eadd v7 r5
          obtain ⟨a1, e7, q7, g7⟩ := eand v4 v5 hb4 hb5
          obtain ⟨n4, e8, q8, g8⟩ := enot v4 hb4
          obtain ⟨a2, e9, q9, g9⟩ := eand n4 v6 q8 hb6
          obtain ⟨a3, e10, q10, g10⟩ := exor a1 a2 q7 q9
          obtain ⟨r7, e11, q11, g11⟩ := eadd r6 a3
          obtain ⟨r8, e12, q12, g12⟩ := eadd r7 kt
          obtain ⟨r9, e13, q13, g13⟩ := eadd r8 wt
          have hone : Aside0 (one kt wt [v0, v1, v2, v3, v4, v5, v6, v7] = r9) := ⟨by
            rw [g13.out, g12.out, g11.out, g10.out, g9.out, g8.out, g7.out, g6.out, g5.out, g4.out, g3.out, g2.out, g1.out]; rfl⟩
          have y0 : (0 : Int) ≤ (t : Int) ∧ (t : Int) < 64 := by omega
          clear q1 q2 q3 q4 q5 q6 q7 q8 q9 q10 q11 q12 g1 g2 g3 g4 g5 g6 g7 g8 g9 g10 g11 g12 g13
          refine wp_region_still_lit (by kernel_rfl) (by kernel_rfl) ?_
          iterate 3 still_step
          still_call (c1 _)
          still_step
          still_call (c2 _)
          iterate 2 still_step
          still_call (c4 _)
          iterate 20 still_step
          refine wpStill_nil ?_
          clear x7 x5 x6 xw c1 c2 c4 e3 e5 e6 e7 e8 e9 e10 e11 e12 e13 y0
          change Exit.then _ _ _ _ w3.drew
          have FS := Aside0.mk FS.out.drew
          generalize w3.drew = w4 at FS ⊢
          go_upto_region 16 with fail
          have x1 := FS.out.drew.cv 1 (by simp)
          have x2 := FS.out.drew.cv 2 (by simp)
          obtain ⟨p1, c1, q1, g1⟩ := turn_k v0 2 2 rfl hb0 (by decide) (by decide)
          obtain ⟨p2, c2, q2, g2⟩ := turn_k v0 13 13 rfl hb0 (by decide) (by decide)
          obtain ⟨p3, e3, q3, g3⟩ := exor p1 p2 q1 q2
          obtain ⟨p4, c4, q4, g4⟩ := turn_k v0 22 22 rfl hb0 (by decide) (by decide)
          obtain ⟨p5, e5, q5, g5⟩ := exor p3 p4 q3 q4
          obtain ⟨b1, e6, q6, g6⟩ := eand v0 v1 hb0 hb1
          obtain ⟨b2, e7, q7, g7⟩ := eand v0 v2 hb0 hb2
          obtain ⟨b3, e8, q8, g8⟩ := exor b1 b2 q6 q7
          obtain ⟨b4, e9, q9, g9⟩ := eand v1 v2 hb1 hb2
          obtain ⟨b5, e10, q10, g10⟩ := exor b3 b4 q8 q9
          obtain ⟨p6, e11, q11, g11⟩ := eadd p5 b5
          have htwo : Aside0 (two [v0, v1, v2, v3, v4, v5, v6, v7] = p6) := ⟨by
            rw [g11.out, g10.out, g9.out, g8.out, g7.out, g6.out, g5.out, g4.out, g3.out, g2.out, g1.out]; rfl⟩
          clear q1 q2 q3 q4 q5 q6 q7 q8 q9 q10 g1 g2 g3 g4 g5 g6 g7 g8 g9 g10 g11
          refine wp_region_still_lit (by kernel_rfl) (by kernel_rfl) ?_
          still_step
          still_call (c1 _)
          still_step
          still_call (c2 _)
          iterate 2 still_step
          still_call (c4 _)
          iterate 18 still_step
          refine wpStill_nil ?_
          clear x1 x2 c1 c2 c4 e3 e5 e6 e7 e8 e9 e10 e11
          change Exit.then _ _ _ _ w4.drew
          have FS := Aside0.mk FS.out.drew
          generalize w4.drew = w5 at FS ⊢
          go_upto_region 17 with fail
          have x1 := FS.out.cv 1 (by simp)
          have x2 := FS.out.cv 2 (by simp)
          have x3 := FS.out.cv 3 (by simp)
          have x5 := FS.out.cv 5 (by simp)
          have x6 := FS.out.cv 6 (by simp)
          obtain ⟨n0, e1, q1, g1⟩ := eadd r9 p6
          obtain ⟨n4', e2, q2, g2⟩ := eadd v3 r9
          have e1' : ((r9 : Int) + (p6 : Int)) % 4294967296 = (n0 : Int) := by rw [← IntKind.wrap_u32']; exact e1
          have e2' : ((v3 : Int) + (r9 : Int)) % 4294967296 = (n4' : Int) := by rw [← IntKind.wrap_u32']; exact e2
          have hnew : Aside0 (vst ks (fill b 64) s (t + 1) = [n0, v0, v1, v2, n4', v4, v5, v6]) := ⟨by rw [hrnd.out, g1.out, g2.out, rnd, hone.out, htwo.out]; rfl⟩
          have x0 := FS.out.cv 0 (by simp)
          have x4 := FS.out.cv 4 (by simp)
          have x7 := FS.out.cv 7 (by simp)
          have xf := fun i => blk_frozen FS.out.hv i
          have FSn : Aside0 (Fs w (w5.setCells g 0 [.int .u32 (n0 : Int), .int .u32 (v0 : Int), .int .u32 (v1 : Int), .int .u32 (v2 : Int), .int .u32 (n4' : Int), .int .u32 (v4 : Int), .int .u32 (v5 : Int), .int .u32 (v6 : Int)]) s (fill b 64) g (vst ks (fill b 64) s (t + 1))) := ⟨by rw [hnew.out]; exact FS.out.row⟩
          clear hnew hrnd hone htwo g1 g2 q1 q2 hb0 hb1 hb2 hb3 hb4 hb5 hb6 hb7 bk bw hlen hvb
          simp only [World.setCells, Nat.zero_add] at FSn
          go_wp2
          go_roundw
          case rel => exact ⟨t + 1, by omega, by go_num, FSn⟩
          case measure => simp [intOf]; omega
        · obtain rfl : t = 64 := by omega
          clear ht ht0 hlt
          obtain ⟨V, hV⟩ : ∃ V, vst ks (fill b 64) s 64 = V := ⟨_, rfl⟩
          have hVl : V.length = 8 := by rw [← hV]; exact (vst_ok ks (fill b 64) s HS.out hsb 64).1
          rw [hV] at FS
          have HV := Aside0.mk hV
          have HVL := Aside0.mk hVl
          clear hV hVl
          have hsL := (Tryd.underlying115 : Tryd.prog.underlying 115 = _)
          go_wp2
          go_loopw [172] (fun v172 wr => ∃ i : Nat, i ≤ 8 ∧ v172 = .int .i64 i ∧ Aside0 (Fs w wr (fin V s i) (fill b 64) g V)) (fun v172 _ => 8 - (intOf v172).toNat)
          case atStart => exact ⟨0, by omega, rfl, FS⟩
          case round =>
            clear FS
            obtain ⟨i, hi, rfl, FS⟩ := hrel
            have hi0 : (0 : Int) ≤ (i : Int) := by omega
            have hfl := (fin_ok V s HS.out hsb i).1
            by_cases hlt : i < 8
            · have d1 : (i : Int) < 8 := by omega
              go_upto_region 22 with fail
              have x0 := FS.out.drew.cs i (by omega)
              have x1 := FS.out.drew.cv i (by rw [HVL.out]; omega)
              have y0 : (0 : Int) ≤ (i : Int) ∧ (i : Int) < 8 := by omega
              obtain ⟨r, e1, q1, g1⟩ := eadd (G (fin V s i) i) (G V i)
              have hz : Aside0 (fin V s (i + 1) = (fin V s i).set i r) := ⟨by rw [g1.out]; rfl⟩
              clear g1 q1
              generalize G (fin V s i) i = a at x0 e1
              generalize G V i = c at x1 e1
              go_still_tail 8, (by kernel_rfl)
              clear x0 x1 y0 e1
              change wpList _ _ _ _ _ wr.drew
              have FS2 := Aside0.mk FS.out.drew
              clear FS
              generalize wr.drew = w3 at FS2 ⊢
              have hfz : w3.frozen? ⟨w.heap.size, i, none⟩ = false := blk_frozen FS2.out.hs i
              have hcl := FS2.out.cs i (by omega)
              have FS3 : Aside0 (Fs w (w3.setCell ⟨w.heap.size, i, none⟩ (.int .u32 (r : Int))) (fin V s (i + 1)) (fill b 64) g V) := ⟨by rw [hz.out]; exact FS2.out.put i r⟩
              clear hfl
              go_wp2
              go_roundw
              case rel => (repeat apply Exists.intro); exact ⟨⟨i + 1, by omega, by go_num, FS3⟩, rfl⟩
              case measure => simp [intOf]; omega
            · obtain rfl : i = 8 := by omega
              clear hi hi0 hlt
              obtain ⟨f0, f1, f2, f3, f4, f5, f6, f7, hf⟩ := eight hfl
              have hres : Aside0 (block ks s b = [f0, f1, f2, f3, f4, f5, f6, f7]) := ⟨by rw [block, HV.out, hf]⟩
              rw [hf] at FS
              clear hf hfl
              have hlit : arr .u32 [f0, f1, f2, f3, f4, f5, f6, f7] = #[.int .u32 (f0 : Int), .int .u32 (f1 : Int), .int .u32 (f2 : Int), .int .u32 (f3 : Int), .int .u32 (f4 : Int), .int .u32 (f5 : Int), .int .u32 (f6 : Int), .int .u32 (f7 : Int)] := rfl
              have hFs := FS.out.hs
              rw [hlit] at hFs
              have HFs := Aside0.mk hFs
              have HO := Aside0.mk (FS.out.out (a := f0) (b := f1) (c := f2) (d := f3) (e := f4) (f := f5) (i := f6) (j := f7))
              have xf := fun i => blk_frozen FS.out.hz i
              have x0 : wr.cell? ⟨w.heap.size + 1 + 1, 0, none⟩ = some (.int .u32 0) := blk_cell FS.out.hz 0
              have x1 : wr.cell? ⟨w.heap.size + 1 + 1, 1, none⟩ = some (.int .u32 0) := blk_cell FS.out.hz 1
              have x2 : wr.cell? ⟨w.heap.size + 1 + 1, 2, none⟩ = some (.int .u32 0) := blk_cell FS.out.hz 2
              have x3 : wr.cell? ⟨w.heap.size + 1 + 1, 3, none⟩ = some (.int .u32 0) := blk_cell FS.out.hz 3
              have x4 : wr.cell? ⟨w.heap.size + 1 + 1, 4, none⟩ = some (.int .u32 0) := blk_cell FS.out.hz 4
              have x5 : wr.cell? ⟨w.heap.size + 1 + 1, 5, none⟩ = some (.int .u32 0) := blk_cell FS.out.hz 5
              have x6 : wr.cell? ⟨w.heap.size + 1 + 1, 6, none⟩ = some (.int .u32 0) := blk_cell FS.out.hz 6
              have x7 : wr.cell? ⟨w.heap.size + 1 + 1, 7, none⟩ = some (.int .u32 0) := blk_cell FS.out.hz 7
              simp only [World.setCells, Nat.zero_add] at HO
              clear hFs hlit
              go_wp2_with (refine wpList_load_row rfl 115 (.tmp 2) rfl w.heap.size rfl 115 _ (0, 0) _ HFs.out hsL rfl (by kernel_rfl) ?_)
              exact bodyPost_ret (v := .agg (arr .u32 [f0, f1, f2, f3, f4, f5, f6, f7])) (results_cell_row rfl _ _ (w.heap.size + 1 + 1) 115 _ (0, 0) _ (by rfl) HO.out.1 hsL rfl (by kernel_rfl)) rfl ⟨by rw [hres.out], HO.out.2⟩
end Go.Proofs.YtpbnfnaebdmagaaDoor.Sha
