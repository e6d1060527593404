/-
  The document's block, walked.
-/
import Derived.Test.YtpbnfnaebdmagaaDoorH3
namespace Go.Proofs.YtpbnfnaebdmagaaDoor.Sha
set_option linter.unusedVariables false
set_option linter.unusedSimpArgs false
open Go Go.RowKit Go.Proofs.YtpbnfnaebdmagaaDoorW.PrintWords Go.Proofs.YtpbnfnaebdmagaaDoorW.PrintLast Go.Proofs.YtpbnfnaebdmagaaDoorW.PrintMore
abbrev TA := 90
abbrev TB := 119
abbrev TS := 114
/-- the blocks of the document's Block -/
structure Fq (w wr : World) (K S B : Array Value) (l : List Nat) : Prop where
  hk : wr.heap[w.heap.size]? = some (.cells K 90 (0, 0))
  hs : wr.heap[w.heap.size + 1]? = some (.cells S 114 (0, 0))
  hb : wr.heap[w.heap.size + 1 + 1]? = some (.cells B 119 (0, 0))
  hz : wr.heap[w.heap.size + 1 + 1 + 1]? = some (.cells z8 114 (0, 0))
  hw : wr.heap[w.heap.size + 1 + 1 + 1 + 1]? = some (.cells (arr .u32 l) 90 (0, 0))
  hB : Below w.heap.size w wr
section
variable {w wr : World} {K S B : Array Value} {l s b ks : List Nat}
theorem Fq.below (h : Fq w wr K S B l) {w2 : World} (hb : Below wr.heap.size wr w2) : Fq w w2 K S B l := ⟨blk_below h.hk hb, blk_below h.hs hb, blk_below h.hb hb, blk_below h.hz hb, blk_below h.hw hb, below_step h.hB hb⟩
theorem Fq.drew (h : Fq w wr K S B l) : Fq w wr.drew K S B l := ⟨h.hk, h.hs, h.hb, h.hz, h.hw, below_drew1 h.hB⟩
theorem Fq.put (h : Fq w wr K S B l) (t x : Nat) : Fq w (wr.setCell ⟨w.heap.size + 1 + 1 + 1 + 1, t, none⟩ (.int .u32 (x : Int))) K S B (l.set t x) :=
  ⟨blk_far h.hk (by show _ ≠ w.heap.size + 1 + 1 + 1 + 1; omega) _, blk_far h.hs (by show _ ≠ w.heap.size + 1 + 1 + 1 + 1; omega) _, blk_far h.hb (by show _ ≠ w.heap.size + 1 + 1 + 1 + 1; omega) _, blk_far h.hz (by show _ ≠ w.heap.size + 1 + 1 + 1 + 1; omega) _, blk_put h.hw t _ (arr_set _ _ _ _), h.hB.setCell (by show w.heap.size ≤ w.heap.size + 1 + 1 + 1 + 1; omega) _⟩
theorem Fq.cw (h : Fq w wr K S B l) (i : Nat) (hi : i < l.length) : wr.cell? ⟨w.heap.size + 1 + 1 + 1 + 1, i, none⟩ = some (.int .u32 (G l i : Nat)) := (blk_cell h.hw i).trans (arr_at _ _ _ hi)
theorem Fq.cb (h : Fq w wr K S (arr .u8 b) l) (i : Nat) (hi : i < b.length) : wr.cell? ⟨w.heap.size + 1 + 1, i, none⟩ = some (.int .u8 (G b i : Nat)) := (blk_cell h.hb i).trans (arr_at _ _ _ hi)
end
/-- behind the words: the state that moves -/
structure Fv (w wr : World) (ks s l : List Nat) (g : Nat) (v : List Nat) : Prop where
  hk : wr.heap[w.heap.size]? = some (.cells (arr .u32 ks) 90 (0, 0))
  hs : wr.heap[w.heap.size + 1]? = some (.cells (arr .u32 s) 114 (0, 0))
  hz : wr.heap[w.heap.size + 1 + 1 + 1]? = some (.cells z8 114 (0, 0))
  hw : wr.heap[w.heap.size + 1 + 1 + 1 + 1]? = some (.cells (arr .u32 l) 90 (0, 0))
  hv : wr.heap[g]? = some (.cells (arr .u32 v) 114 (0, 0))
  hB : Below w.heap.size w wr
  hg : w.heap.size + 1 + 1 + 1 + 1 < g
section
variable {w wr : World} {K S B : Array Value} {l s b ks v : List Nat} {g : Nat}
theorem Fq.alloc (h : Fq w wr K S B l) (hK : K = arr .u32 ks) (hS : S = arr .u32 s) (V : Array Value) (hV : V = arr .u32 v) : Fv w (wr.alloc (.cells V 114)) ks s l wr.heap.size v := by
  subst hK hS hV
  exact ⟨blk_alloc h.hk _, blk_alloc h.hs _, blk_alloc h.hz _, blk_alloc h.hw _, blk_new _ _, below_alloc h.hB _, blk_lt h.hw⟩
theorem Fv.below (h : Fv w wr ks s l g v) {w2 : World} (hb : Below wr.heap.size wr w2) : Fv w w2 ks s l g v := ⟨blk_below h.hk hb, blk_below h.hs hb, blk_below h.hz hb, blk_below h.hw hb, blk_below h.hv hb, below_step h.hB hb, h.hg⟩
theorem Fv.drew (h : Fv w wr ks s l g v) : Fv w wr.drew ks s l g v := ⟨h.hk, h.hs, h.hz, h.hw, h.hv, below_drew1 h.hB, h.hg⟩
theorem Fv.ck (h : Fv w wr ks s l g v) (i : Nat) (hi : i < ks.length) : wr.cell? ⟨w.heap.size, i, none⟩ = some (.int .u32 (G ks i : Nat)) := (blk_cell h.hk i).trans (arr_at _ _ _ hi)
theorem Fv.cw (h : Fv w wr ks s l g v) (i : Nat) (hi : i < l.length) : wr.cell? ⟨w.heap.size + 1 + 1 + 1 + 1, i, none⟩ = some (.int .u32 (G l i : Nat)) := (blk_cell h.hw i).trans (arr_at _ _ _ hi)
theorem Fv.cv (h : Fv w wr ks s l g v) (i : Nat) (hi : i < v.length) : wr.cell? ⟨g, i, none⟩ = some (.int .u32 (G v i : Nat)) := (blk_cell h.hv i).trans (arr_at _ _ _ hi)
theorem Fv.cs (h : Fv w wr ks s l g v) (i : Nat) (hi : i < s.length) : wr.cell? ⟨w.heap.size + 1, i, none⟩ = some (.int .u32 (G s i : Nat)) := (blk_cell h.hs i).trans (arr_at _ _ _ hi)
theorem Fv.put (h : Fv w wr ks s l g v) (t x : Nat) : Fv w (wr.setCell ⟨g, t, none⟩ (.int .u32 (x : Int))) ks s l g (v.set t x) := by
  have hg := h.hg
  exact ⟨blk_far h.hk (by show _ ≠ g; omega) _, blk_far h.hs (by show _ ≠ g; omega) _, blk_far h.hz (by show _ ≠ g; omega) _, blk_far h.hw (by show _ ≠ g; omega) _, blk_put h.hv t _ (arr_set _ _ _ _), h.hB.setCell (by show w.heap.size ≤ g; omega) _, hg⟩
theorem Fv.out (h : Fv w wr ks s l g v) {a b c d e f i j : Nat} :
    (wr.setCells (w.heap.size + 1 + 1 + 1) 0 [.int .u32 (a : Int), .int .u32 (b : Int), .int .u32 (c : Int), .int .u32 (d : Int), .int .u32 (e : Int), .int .u32 (f : Int), .int .u32 (i : Int), .int .u32 (j : Int)]).heap[w.heap.size + 1 + 1 + 1]? = some (.cells (arr .u32 [a, b, c, d, e, f, i, j]) 114 (0, 0)) ∧
    Below w.heap.size w (wr.setCells (w.heap.size + 1 + 1 + 1) 0 [.int .u32 (a : Int), .int .u32 (b : Int), .int .u32 (c : Int), .int .u32 (d : Int), .int .u32 (e : Int), .int .u32 (f : Int), .int .u32 (i : Int), .int .u32 (j : Int)]) := by
  refine ⟨?_, below_setCells (by omega) _ _ _ h.hB⟩
  simp only [World.setCells]
  have hz : wr.heap[w.heap.size + 1 + 1 + 1]? = some (.cells (arr .u32 [0, 0, 0, 0, 0, 0, 0, 0]) 114 (0, 0)) := h.hz
  have z := blk_put (blk_put (blk_put (blk_put (blk_put (blk_put (blk_put (blk_put hz 0 _ (arr_set _ _ _ a)) 1 _ (arr_set _ _ _ b)) 2 _ (arr_set _ _ _ c)) 3 _ (arr_set _ _ _ d)) 4 _ (arr_set _ _ _ e)) 5 _ (arr_set _ _ _ f)) 6 _ (arr_set _ _ _ i)) 7 _ (arr_set _ _ _ j)
  simp only [List.set_cons_zero, List.set_cons_succ] at z
  exact z
end
theorem esub (a : Nat) (ha : a < 4294967296) : ∃ c : Nat, IntKind.u32.wrap (4294967295 - (a : Int)) = (c : Int) ∧ c < 4294967296 ∧ Aside0 (c = 4294967295 - a) :=
  ⟨4294967295 - a, by rw [IntKind.wrap_u32']; omega, by omega, ⟨rfl⟩⟩
theorem eadd' (a b : Nat) : ∃ c : Nat, IntKind.u32.wrap ((a : Int) + (b : Int)) = (c : Int) ∧ ((a : Int) + (b : Int)) % 4294967296 = (c : Int) ∧ c < 4294967296 ∧ Aside0 (c = (a + b) % 4294967296) :=
  ⟨(a + b) % 4294967296, wrapN (a + b), by omega, Nat.mod_lt _ (by decide), ⟨rfl⟩⟩
set_option maxHeartbeats 4000000 in
set_option maxRecDepth 1000000 in
theorem rblock_walk (ks s b : List Nat) (w : World) (hk : ks.length = 64) (hkb : bnd ks 4294967296) (hs : s.length = 8) (hb : b.length = 64) (hsb : bnd s 4294967296) (hbb : bnd b 256) :
    Calls Tryd.prog 77 #[.agg (arr .u32 ks), .agg (arr .u32 s), .agg (arr .u8 b)] w fun e w' => e = .returned (.agg (arr .u32 (block ks s b))) ∧ Below w.heap.size w w' := by
  have HS := Aside0.mk hs
  have HB := Aside0.mk hb
  have HK := Aside0.mk hk
  clear hs hb hk
  generalize hc1 : arr .u32 s = S
  generalize hc2 : arr .u8 b = B
  generalize hc3 : arr .u32 ks = K
  have HC1 := Aside0.mk hc1
  have HC2 := Aside0.mk hc2
  have HC3 := Aside0.mk hc3
  clear hc1 hc2 hc3
  go_enter Tryd.func77, Tryd.ntmps77
  go_upto_region 2 with fail
  have HF : Aside0 (Fq w (((((w.alloc (.cells K 90)).alloc (.cells S 114)).alloc (.cells B 119)).alloc (.cells z8 114)).alloc (.cells (arr .u32 (fill b 0)) 90)) K S B (fill b 0)) := by
    refine ⟨⟨?_, ?_, ?_, ?_, ?_, ?_⟩⟩
    · exact blk_alloc (blk_alloc (blk_alloc (blk_alloc (blk_new w _) _) _) _) _
    · have h := blk_alloc (blk_alloc (blk_alloc (blk_new (w.alloc (.cells K 90)) (.cells S 114)) (.cells B 119)) (.cells z8 114)) (.cells (arr .u32 (fill b 0)) 90)
      simpa using h
    · have h := blk_alloc (blk_alloc (blk_new ((w.alloc (.cells K 90)).alloc (.cells S 114)) (.cells B 119)) (.cells z8 114)) (.cells (arr .u32 (fill b 0)) 90)
      simpa using h
    · have h := blk_alloc (blk_new (((w.alloc (.cells K 90)).alloc (.cells S 114)).alloc (.cells B 119)) (.cells z8 114)) (.cells (arr .u32 (fill b 0)) 90)
      simpa using h
    · have h := blk_new ((((w.alloc (.cells K 90)).alloc (.cells S 114)).alloc (.cells B 119)).alloc (.cells z8 114)) (.cells (arr .u32 (fill b 0)) 90)
      simpa using h
    · exact below_alloc (below_alloc (below_alloc (below_alloc (below_alloc (Below.refl _ _) _) _) _) _) _
  have he : arr .u32 (fill b 0) = #[.int .u32 0, .int .u32 0, .int .u32 0, .int .u32 0, .int .u32 0, .int .u32 0, .int .u32 0, .int .u32 0, .int .u32 0, .int .u32 0, .int .u32 0, .int .u32 0, .int .u32 0, .int .u32 0, .int .u32 0, .int .u32 0, .int .u32 0, .int .u32 0, .int .u32 0, .int .u32 0, .int .u32 0, .int .u32 0, .int .u32 0, .int .u32 0, .int .u32 0, .int .u32 0, .int .u32 0, .int .u32 0, .int .u32 0, .int .u32 0, .int .u32 0, .int .u32 0, .int .u32 0, .int .u32 0, .int .u32 0, .int .u32 0, .int .u32 0, .int .u32 0, .int .u32 0, .int .u32 0, .int .u32 0, .int .u32 0, .int .u32 0, .int .u32 0, .int .u32 0, .int .u32 0, .int .u32 0, .int .u32 0, .int .u32 0, .int .u32 0, .int .u32 0, .int .u32 0, .int .u32 0, .int .u32 0, .int .u32 0, .int .u32 0, .int .u32 0, .int .u32 0, .int .u32 0, .int .u32 0, .int .u32 0, .int .u32 0, .int .u32 0, .int .u32 0] := by rfl
  rw [← he]
  clear he
  generalize ((((w.alloc (.cells K 90)).alloc (.cells S 114)).alloc (.cells B 119)).alloc (.cells z8 114)).alloc (.cells (arr .u32 (fill b 0)) 90) = W at HF ⊢
  go_wp2
  go_loopw [8] (fun v8 wr => ∃ t : Nat, t ≤ 16 ∧ v8 = .int .i64 t ∧ Aside0 (Fq w wr K S B (fill b t))) (fun v8 _ => 16 - (intOf v8).toNat)
  case atStart => exact ⟨0, by omega, rfl, HF⟩
  case round =>
    clear HF
    obtain ⟨t, ht, rfl, FR⟩ := hrel
    have ht0 : (0 : Int) ≤ (t : Int) := by omega
    by_cases hlt : t < 16
    · have d1 : (t : Int) < 16 := by omega
      have d2 : (t : Int) < 64 := by omega
      have hlen := (fill_ok b hbb t).1
      have FR0 : Aside0 (Fq w wr K S B ((fill b t).set t (acc b t 0))) := ⟨by rw [fill_set0 b t hbb (by omega)]; exact FR.out⟩
      have HT := Aside0.mk (fill_set4 b t hbb hlt)
      obtain ⟨wo, rfl⟩ : ∃ wo : World, wo = wr := ⟨_, rfl⟩
      clear FR
      go_wp2
      go_loopw [9] (fun v9 wr => ∃ i : Nat, i ≤ 4 ∧ v9 = .int .i64 i ∧ Aside0 (Fq w wr K S B ((fill b t).set t (acc b t i)))) (fun v9 _ => 4 - (intOf v9).toNat)
      case atStart => exact ⟨0, by omega, rfl, FR0⟩
      case round =>
        clear FR0
        obtain ⟨i, hi, rfl, FR⟩ := hrel
        have hi0 : (0 : Int) ≤ (i : Int) := by omega
        by_cases hli : i < 4
        · have d3 : (i : Int) < 4 := by omega
          go_upto_region 8 with fail
          have hc := HC2.out
          subst hc
          have x0 := FR.out.drew.cb (4 * t + i) (by rw [HB.out]; omega)
          have x1 := FR.out.drew.cw t (by rw [List.length_set]; omega)
          rw [G_set _ _ _ (by omega)] at x1
          have gb := G_lt hbb (by decide) (4 * t + i)
          have ha := acc_lt b t i
          have hnx : Aside0 (acc b t (i + 1) = (acc b t i * 256 % 4294967296 + G b (4 * t + i)) % 4294967296) := ⟨rfl⟩
          generalize acc b t i = a at x1 ha hnx
          generalize G b (4 * t + i) = c at x0 gb hnx
          obtain ⟨h0, f0, l0, m0⟩ := eshl a 256 256 rfl
          have e0 := ewrap c (by omega)
          obtain ⟨r, e1, q1, g1⟩ := eadd h0 c
          have hz : Aside0 (acc b t (i + 1) = r) := ⟨by rw [hnx.out, g1.out, m0.out]⟩
          clear hnx g1 m0 l0 q1 gb ha
          have y0 : (0 : Int) ≤ (t : Int) ∧ (t : Int) < 64 := by omega
          have y1 : (0 : Int) ≤ 4 * (t : Int) + (i : Int) ∧ 4 * (t : Int) + (i : Int) < 64 := by omega
          have k0 : IntKind.i64.wrap (4 * (t : Int)) = 4 * (t : Int) := i64w _ (by omega)
          have k1 : IntKind.i64.wrap (4 * (t : Int) + (i : Int)) = 4 * (t : Int) + (i : Int) := i64w _ (by omega)
          have n1 : (4 * (t : Int) + (i : Int)).toNat = 4 * t + i := by omega
          go_still_tail 14, (by kernel_rfl)
          clear x0 x1 y0 y1 k0 k1 n1 e0 e1 f0
          change wpList _ _ _ _ _ wr.drew
          have FR2 := Aside0.mk FR.out.drew
          clear FR
          generalize wr.drew = w2 at FR2 ⊢
          have hfz : w2.frozen? ⟨w.heap.size + 1 + 1 + 1 + 1, t, none⟩ = false := blk_frozen FR2.out.hw t
          have hcl := FR2.out.cw t (by rw [List.length_set]; omega)
          have FR3 : Aside0 (Fq w (w2.setCell ⟨w.heap.size + 1 + 1 + 1 + 1, t, none⟩ (.int .u32 (r : Int))) K S (arr .u8 b) ((fill b t).set t (acc b t (i + 1)))) := ⟨by
            have h := FR2.out.put t r
            rw [List.set_set, ← hz.out] at h
            rw [← hz.out]; exact h⟩
          go_wp2
          go_roundw
          case rel => exact ⟨i + 1, by omega, by go_num, FR3⟩
          case measure => simp [intOf]; omega
        · obtain rfl : i = 4 := by omega
          have FR4 : Aside0 (Fq w wr K S B (fill b (t + 1))) := ⟨by rw [← HT.out]; exact FR.out⟩
          clear FR hlen
          go_wp2
          go_roundw
          case rel => exact ⟨t + 1, by omega, by go_num, FR4⟩
          case measure => simp [intOf]; omega
    · obtain rfl : t = 16 := by omega
      clear ht ht0 hlt
      go_wp2
      go_loopw [10] (fun v10 wr => ∃ t : Nat, 16 ≤ t ∧ t ≤ 64 ∧ v10 = .int .i64 t ∧ Aside0 (Fq w wr K S B (fill b t))) (fun v10 _ => 64 - (intOf v10).toNat)
      case atStart => exact ⟨16, by omega, by omega, rfl, FR⟩
      case round =>
        clear FR
        obtain ⟨t, h16, ht, rfl, FR⟩ := hrel
        have ht0 : (0 : Int) ≤ (t : Int) := by omega
        by_cases hlt : t < 64
        · have d1 : (t : Int) < 64 := by omega
          have hlen := (fill_ok b hbb t).1
          have hbd := (fill_ok b hbb t).2
          have hlater : Aside0 (next b (fill b t) t = (((((rorN (G (fill b t) (t - 2)) 17 ^^^ rorN (G (fill b t) (t - 2)) 19) ^^^ G (fill b t) (t - 2) / 1024) + G (fill b t) (t - 7)) % 4294967296 + ((rorN (G (fill b t) (t - 15)) 7 ^^^ rorN (G (fill b t) (t - 15)) 18) ^^^ G (fill b t) (t - 15) / 8)) % 4294967296 + G (fill b t) (t - 16)) % 4294967296) := ⟨by rw [next, if_neg (by omega), later]⟩
          have cx := fun W (h : Fq w W K S B (fill b t)) => h.cw (t - 15) (by omega)
          have cy := fun W (h : Fq w W K S B (fill b t)) => h.cw (t - 2) (by omega)
          have cz := fun W (h : Fq w W K S B (fill b t)) => h.cw (t - 7) (by omega)
          have cu := fun W (h : Fq w W K S B (fill b t)) => h.cw (t - 16) (by omega)
          have bx := G_lt hbd (by decide) (t - 15)
          have by_ := G_lt hbd (by decide) (t - 2)
          have bz := G_lt hbd (by decide) (t - 7)
          have bu := G_lt hbd (by decide) (t - 16)
          generalize G (fill b t) (t - 15) = x at cx hlater bx
          generalize G (fill b t) (t - 2) = y at cy hlater by_
          generalize G (fill b t) (t - 7) = z at cz hlater bz
          generalize G (fill b t) (t - 16) = u at cu hlater bu
          have CX := Aside0.mk cx
          clear cx
          have CY := Aside0.mk cy
          clear cy
          have CZ := Aside0.mk cz
          clear cz
          have CU := Aside0.mk cu
          clear cu
          have a15 : (15 : Int) ≤ (t : Int) := by omega
          have b15 : (t : Int) - 15 < 64 := by omega
          have n15 : ((t : Int) - 15).toNat = t - 15 := by omega
          have a2 : (2 : Int) ≤ (t : Int) := by omega
          have b2 : (t : Int) - 2 < 64 := by omega
          have n2 : ((t : Int) - 2).toNat = t - 2 := by omega
          have a7 : (7 : Int) ≤ (t : Int) := by omega
          have b7 : (t : Int) - 7 < 64 := by omega
          have n7 : ((t : Int) - 7).toNat = t - 7 := by omega
          have a16 : (16 : Int) ≤ (t : Int) := by omega
          have b16 : (t : Int) - 16 < 64 := by omega
          have n16 : ((t : Int) - 16).toNat = t - 16 := by omega
          clear hbd
          obtain ⟨r7, c7, q7, g7⟩ := rturn_k x 7 7 rfl bx (by decide) (by decide)
          obtain ⟨r8, c8, q8, g8⟩ := rturn_k x 18 18 rfl bx (by decide) (by decide)
          obtain ⟨s1, c9, q10, g10⟩ := rshift_k x 3 8 3 rfl rfl bx (by decide)
          obtain ⟨r1, c1, q1, g1⟩ := rturn_k y 17 17 rfl by_ (by decide) (by decide)
          obtain ⟨r2, c2, q2, g2⟩ := rturn_k y 19 19 rfl by_ (by decide) (by decide)
          obtain ⟨r4, c4, q4, g4⟩ := rshift_k y 10 1024 10 rfl rfl by_ (by decide)
          obtain ⟨r3, e3, q3, g3⟩ := exor r1 r2 q1 q2
          obtain ⟨r5, e5, q5, g5⟩ := exor r3 r4 q3 q4
          obtain ⟨r6, e6, q6, g6⟩ := eadd r5 z
          obtain ⟨r9, e9, q9, g9⟩ := exor r7 r8 q7 q8
          obtain ⟨s2, e11, q11, g11⟩ := exor r9 s1 q9 q10
          obtain ⟨s3, e12, q12, g12⟩ := eadd r6 s2
          obtain ⟨s4, e13, q13, g13⟩ := eadd s3 u
          have hz : Aside0 (s4 = next b (fill b t) t) := ⟨by rw [hlater.out, g13.out, g12.out, g11.out, g10.out, g9.out, g8.out, g7.out, g6.out, g5.out, g4.out, g3.out, g2.out, g1.out]⟩
          clear q1 q2 q3 q4 q5 q6 q7 q8 q9 q10 q11 q12 q13 g1 g2 g3 g4 g5 g6 g7 g8 g9 g10 g11 g12 g13 hlater bx by_ bz bu
          have C7 := Aside0.mk c7; clear c7
          have C8 := Aside0.mk c8; clear c8
          have C9 := Aside0.mk c9; clear c9
          have C1 := Aside0.mk c1; clear c1
          have C2 := Aside0.mk c2; clear c2
          have C4 := Aside0.mk c4; clear c4
          have xc := CX.out _ FR.out
          go_upto_region 13 with (go_at_call 86; (with_reducible refine (C7.out _).mono ?_); rintro e w9 ⟨rfl, hb⟩; have FRn := Aside0.mk (FR.out.below hb); clear hb)
          clear xc FR
          have FR := FRn
          clear FRn
          have xc := CX.out _ FR.out
          go_upto_region 14 with (go_at_call 86; (with_reducible refine (C8.out _).mono ?_); rintro e w9 ⟨rfl, hb⟩; have FRn := Aside0.mk (FR.out.below hb); clear hb)
          clear xc FR
          have FR := FRn
          clear FRn
          have xc := CX.out _ FR.out
          go_upto_region 15 with (go_at_call 87; (with_reducible refine (C9.out _).mono ?_); rintro e w9 ⟨rfl, hb⟩; have FRn := Aside0.mk (FR.out.below hb); clear hb)
          clear xc FR
          have FR := FRn
          clear FRn
          have xc := CY.out _ FR.out
          go_upto_region 16 with (go_at_call 86; (with_reducible refine (C1.out _).mono ?_); rintro e w9 ⟨rfl, hb⟩; have FRn := Aside0.mk (FR.out.below hb); clear hb)
          clear xc FR
          have FR := FRn
          clear FRn
          have xc := CY.out _ FR.out
          go_upto_region 17 with (go_at_call 86; (with_reducible refine (C2.out _).mono ?_); rintro e w9 ⟨rfl, hb⟩; have FRn := Aside0.mk (FR.out.below hb); clear hb)
          clear xc FR
          have FR := FRn
          clear FRn
          have xc := CY.out _ FR.out
          go_upto_region 18 with (go_at_call 87; (with_reducible refine (C4.out _).mono ?_); rintro e w9 ⟨rfl, hb⟩; have FRn := Aside0.mk (FR.out.below hb); clear hb)
          clear xc FR
          have FR := FRn
          clear FRn
          have x2 := CZ.out _ FR.out.drew
          have x3 := CU.out _ FR.out.drew
          have k0 : IntKind.i64.wrap ((t : Int) - 7) = (t : Int) - 7 := IntWalk.i64_in _ (by omega)
          have k1 : IntKind.i64.wrap ((t : Int) - 16) = (t : Int) - 16 := IntWalk.i64_in _ (by omega)
          go_still_tail 23, (by kernel_rfl)
          clear x2 x3 k0 k1 e3 e5 e6 e9 e11 e12 e13 a15 a2 a7 a16 b15 b2 b7 b16 n15 n2 n7 n16
          change wpList _ _ _ _ _ w9.drew
          have FR2 := Aside0.mk FR.out.drew
          clear FR CX CY CZ CU C7 C8 C9 C1 C2 C4
          generalize w9.drew = w3 at FR2 ⊢
          have hfz : w3.frozen? ⟨w.heap.size + 1 + 1 + 1 + 1, t, none⟩ = false := blk_frozen FR2.out.hw t
          have hcl := FR2.out.cw t (by omega)
          have FR3 : Aside0 (Fq w (w3.setCell ⟨w.heap.size + 1 + 1 + 1 + 1, t, none⟩ (.int .u32 (s4 : Int))) K S B (fill b (t + 1))) := ⟨by rw [fill, ← hz.out]; exact FR2.out.put t s4⟩
          clear hlen
          go_wp2
          go_roundw
          case rel => (repeat apply Exists.intro); exact ⟨⟨t + 1, by omega, by omega, by go_num, FR3⟩, rfl⟩
          case measure => simp [intOf]; omega
        · obtain rfl : t = 64 := by omega
          clear ht ht0 hlt h16
          go_upto_region 19 with fail
          have hsL := (Tryd.underlying114 : Tryd.prog.underlying 114 = _)
          have FR2 := FR
          obtain ⟨s0, s1, s2, s3, s4, s5, s6, s7, hse⟩ := eight HS.out
          have hse := Aside0.mk hse
          have hS : S = #[.int .u32 (s0 : Int), .int .u32 (s1 : Int), .int .u32 (s2 : Int), .int .u32 (s3 : Int), .int .u32 (s4 : Int), .int .u32 (s5 : Int), .int .u32 (s6 : Int), .int .u32 (s7 : Int)] := by rw [← HC1.out, hse.out]; rfl
          subst hS
          go_upto_region 20 with (refine wpList_load_row rfl 114 (.tmp 4) rfl (w.heap.size + 1) (by rfl) 114 _ (0, 0) _ FR2.out.hs hsL rfl (by kernel_rfl) ?_)
          have hz : Aside0 (Fv w (wr.alloc (.cells #[.int .u32 (s0 : Int), .int .u32 (s1 : Int), .int .u32 (s2 : Int), .int .u32 (s3 : Int), .int .u32 (s4 : Int), .int .u32 (s5 : Int), .int .u32 (s6 : Int), .int .u32 (s7 : Int)] 114)) ks s (fill b 64) wr.heap.size (vst ks (fill b 64) s 0)) := ⟨FR.out.alloc HC3.out.symm HC1.out.symm _ HC1.out.symm⟩
          generalize wr.heap.size = g at hz ⊢
          generalize wr.alloc (.cells #[.int .u32 (s0 : Int), .int .u32 (s1 : Int), .int .u32 (s2 : Int), .int .u32 (s3 : Int), .int .u32 (s4 : Int), .int .u32 (s5 : Int), .int .u32 (s6 : Int), .int .u32 (s7 : Int)] 114) = w2 at hz ⊢
          clear FR FR2 HC1 hse hsL
          go_wp2
          go_loopw [18] (fun v18 wr => ∃ t : Nat, t ≤ 64 ∧ v18 = .int .i64 t ∧ Aside0 (Fv w wr ks s (fill b 64) g (vst ks (fill b 64) s t))) (fun v18 _ => 64 - (intOf v18).toNat)
          case atStart => exact ⟨0, by omega, rfl, hz⟩
          case round =>
            clear hz
            obtain ⟨t, ht, rfl, FS⟩ := hrel
            have ht0 : (0 : Int) ≤ (t : Int) := by omega
            by_cases hlt : t < 64
            · have d1 : (t : Int) < 64 := by omega
              obtain ⟨v0, v1, v2, v3, v4, v5, v6, v7, hv⟩ := eight (vst_ok ks (fill b 64) s HS.out hsb t).1
              have hvb := (vst_ok ks (fill b 64) s HS.out hsb t).2
              have hrnd : Aside0 (vst ks (fill b 64) s (t + 1) = rnd (G ks t) (G (fill b 64) t) [v0, v1, v2, v3, v4, v5, v6, v7]) := ⟨by rw [vst, hv]⟩
              rw [hv] at FS hvb
              clear hv
              have hb0 : v0 < 4294967296 := hvb _ (by simp)
              have hb1 : v1 < 4294967296 := hvb _ (by simp)
              have hb2 : v2 < 4294967296 := hvb _ (by simp)
              have hb3 : v3 < 4294967296 := hvb _ (by simp)
              have hb4 : v4 < 4294967296 := hvb _ (by simp)
              have hb5 : v5 < 4294967296 := hvb _ (by simp)
              have hb6 : v6 < 4294967296 := hvb _ (by simp)
              have hb7 : v7 < 4294967296 := hvb _ (by simp)
              have bw := G_lt (fill_ok b hbb 64).2 (by decide) t
              have bk := G_lt hkb (by decide) t
              have hlen := (fill_ok b hbb 64).1
              have cv := Aside0.mk (fun W (h : Fv w W ks s (fill b 64) g [v0, v1, v2, v3, v4, v5, v6, v7]) => h.cv)
              have ck := fun W (h : Fv w W ks s (fill b 64) g [v0, v1, v2, v3, v4, v5, v6, v7]) => h.ck t (by rw [HK.out]; omega)
              have cw := fun W (h : Fv w W ks s (fill b 64) g [v0, v1, v2, v3, v4, v5, v6, v7]) => h.cw t (by omega)
              obtain ⟨kt, hkt⟩ : ∃ x, G ks t = x := ⟨_, rfl⟩
              obtain ⟨wt, hwt⟩ : ∃ x, G (fill b 64) t = x := ⟨_, rfl⟩
              rw [hkt] at ck bk
              rw [hwt] at cw bw
              have hrnd : Aside0 (vst ks (fill b 64) s (t + 1) = rnd kt wt [v0, v1, v2, v3, v4, v5, v6, v7]) := ⟨by rw [← hwt, ← hkt]; exact hrnd.out⟩
              clear hkt hwt hlen
              have ck := Aside0.mk ck
              have cw := Aside0.mk cw
              obtain ⟨r1, c1, q1, g1⟩ := rturn_k v4 6 6 rfl hb4 (by decide) (by decide)
              obtain ⟨r2, c2, q2, g2⟩ := rturn_k v4 11 11 rfl hb4 (by decide) (by decide)
              obtain ⟨r3, e3, q3, g3⟩ := exor r1 r2 q1 q2
              obtain ⟨r4, c4, q4, g4⟩ := rturn_k v4 25 25 rfl hb4 (by decide) (by decide)
              obtain ⟨r5, e5, q5, g5⟩ := exor r3 r4 q3 q4
              obtain ⟨r6, e6, q6, g6⟩ := eadd v7 r5
              obtain ⟨a1, e7, q7, g7⟩ := eand v4 v5 hb4 hb5
              obtain ⟨n4, e8, q8, g8⟩ := esub v4 hb4
              obtain ⟨a2, e9, q9, g9⟩ := eand n4 v6 q8 hb6
              obtain ⟨a3, e10, q10, g10⟩ := exor a1 a2 q7 q9
              obtain ⟨r7, e11, q11, g11⟩ := eadd r6 a3
              obtain ⟨r8, e12, q12, g12⟩ := eadd r7 kt
              obtain ⟨r9, e13, q13, g13⟩ := eadd r8 wt
              have hone : Aside0 (one kt wt [v0, v1, v2, v3, v4, v5, v6, v7] = r9) := ⟨by
                rw [g13.out, g12.out, g11.out, g10.out, g9.out, g8.out, g7.out, g6.out, g5.out, g4.out, g3.out, g2.out, g1.out]; rfl⟩
              clear q1 q2 q3 q4 q5 q6 q7 q8 q9 q10 q11 q12 g1 g2 g3 g4 g5 g6 g7 g8 g9 g10 g11 g12 g13
              obtain ⟨p1, d2, q1, g1⟩ := rturn_k v0 2 2 rfl hb0 (by decide) (by decide)
              obtain ⟨p2, d3, q2, g2⟩ := rturn_k v0 13 13 rfl hb0 (by decide) (by decide)
              obtain ⟨p3, f3, q3, g3⟩ := exor p1 p2 q1 q2
              obtain ⟨p4, d4, q4, g4⟩ := rturn_k v0 22 22 rfl hb0 (by decide) (by decide)
              obtain ⟨p5, f5, q5, g5⟩ := exor p3 p4 q3 q4
              obtain ⟨b1, f6, q6, g6⟩ := eand v0 v1 hb0 hb1
              obtain ⟨b2, f7, q7, g7⟩ := eand v0 v2 hb0 hb2
              obtain ⟨b3, f8, q8, g8⟩ := exor b1 b2 q6 q7
              obtain ⟨b4, f9, q9, g9⟩ := eand v1 v2 hb1 hb2
              obtain ⟨b5, f10, q10, g10⟩ := exor b3 b4 q8 q9
              obtain ⟨p6, f11, f11', q11, g11⟩ := eadd' p5 b5
              have htwo : Aside0 (two [v0, v1, v2, v3, v4, v5, v6, v7] = p6) := ⟨by
                rw [g11.out, g10.out, g9.out, g8.out, g7.out, g6.out, g5.out, g4.out, g3.out, g2.out, g1.out]; rfl⟩
              clear q1 q2 q3 q4 q5 q6 q7 q8 q9 q10 g1 g2 g3 g4 g5 g6 g7 g8 g9 g10 g11
              obtain ⟨m0, h1, h1', q1, g1⟩ := eadd' r9 p6
              obtain ⟨m4, h2, h2', q2, g2⟩ := eadd' v3 r9
              have hnew : Aside0 (vst ks (fill b 64) s (t + 1) = [m0, v0, v1, v2, m4, v4, v5, v6]) := ⟨by rw [hrnd.out, g1.out, g2.out, rnd, hone.out, htwo.out]; rfl⟩
              clear hrnd hone htwo g1 g2 q1 q2 hb0 hb1 hb2 hb3 hb4 hb5 hb6 hb7 bk bw hvb
              have C1 := Aside0.mk c1; clear c1
              have C2 := Aside0.mk c2; clear c2
              have C4 := Aside0.mk c4; clear c4
              have D2 := Aside0.mk d2; clear d2
              have D3 := Aside0.mk d3; clear d3
              have D4 := Aside0.mk d4; clear d4
              have x4 := cv.out _ FS.out 4 (by simp)
              go_upto_region 24 with (go_at_call 86; (with_reducible refine (C1.out _).mono ?_); rintro e w9 ⟨rfl, hb⟩; have FRn := Aside0.mk (FS.out.below hb); clear hb)
              clear x4 FS
              have FS := FRn
              clear FRn
              have x4 := cv.out _ FS.out 4 (by simp)
              go_upto_region 25 with (go_at_call 86; (with_reducible refine (C2.out _).mono ?_); rintro e w9 ⟨rfl, hb⟩; have FRn := Aside0.mk (FS.out.below hb); clear hb)
              clear x4 FS
              have FS := FRn
              clear FRn
              have x4 := cv.out _ FS.out 4 (by simp)
              go_upto_region 26 with (go_at_call 86; (with_reducible refine (C4.out _).mono ?_); rintro e w9 ⟨rfl, hb⟩; have FRn := Aside0.mk (FS.out.below hb); clear hb)
              clear x4 FS
              have FS := FRn
              clear FRn
              have x4 := cv.out _ FS.out 4 (by simp)
              have x5 := cv.out _ FS.out 5 (by simp)
              have x6 := cv.out _ FS.out 6 (by simp)
              go_upto_region 27 with fail
              clear x4 x5 x6
              have x7 := cv.out _ FS.out.drew 7 (by simp)
              have xk := ck.out _ FS.out.drew
              have xw := cw.out _ FS.out.drew
              have y0 : (0 : Int) ≤ (t : Int) ∧ (t : Int) < 64 := by omega
              go_still (by kernel_rfl)
              clear x7 xk xw y0 e3 e5 e6 e7 e8 e9 e10 e11 e12 e13
              change Exit.then _ _ _ _ w9.drew
              have FS := Aside0.mk FS.out.drew
              generalize w9.drew = w8 at FS ⊢
              have x0 := cv.out _ FS.out 0 (by simp)
              go_upto_region 29 with (go_at_call 86; (with_reducible refine (D2.out _).mono ?_); rintro e w9 ⟨rfl, hb⟩; have FRn := Aside0.mk (FS.out.below hb); clear hb)
              clear x0 FS
              have FS := FRn
              clear FRn
              have x0 := cv.out _ FS.out 0 (by simp)
              go_upto_region 30 with (go_at_call 86; (with_reducible refine (D3.out _).mono ?_); rintro e w9 ⟨rfl, hb⟩; have FRn := Aside0.mk (FS.out.below hb); clear hb)
              clear x0 FS
              have FS := FRn
              clear FRn
              have x0 := cv.out _ FS.out 0 (by simp)
              go_upto_region 31 with (go_at_call 86; (with_reducible refine (D4.out _).mono ?_); rintro e w9 ⟨rfl, hb⟩; have FRn := Aside0.mk (FS.out.below hb); clear hb)
              clear x0 FS
              have FS := FRn
              clear FRn
              have x0 := cv.out _ FS.out 0 (by simp)
              have x1 := cv.out _ FS.out 1 (by simp)
              have x2 := cv.out _ FS.out 2 (by simp)
              go_upto_region 33 with fail
              clear x0 x1 x2 f3 f5 f6 f7 f8 f9 f10 f11 f11'
              clear cv ck cw C1 C2 C4 D2 D3 D4
              have FS0 : Aside0 (Fv w w9 ks s (fill b 64) g (shiftL [v0, v1, v2, v3, v4, v5, v6, v7] 7)) := FS
              clear FS
              obtain ⟨wo, rfl⟩ : ∃ wo : World, wo = wr := ⟨_, rfl⟩
              go_wp2
              go_loopw [29] (fun v29 wr => ∃ i : Nat, i ≤ 7 ∧ v29 = .int .i64 i ∧ Aside0 (Fv w wr ks s (fill b 64) g (shiftL [v0, v1, v2, v3, v4, v5, v6, v7] i))) (fun v29 _ => (intOf v29).toNat)
              case atStart => exact ⟨7, by omega, rfl, FS0⟩
              case round =>
                clear FS0
                obtain ⟨i, hi, rfl, FS⟩ := hrel
                by_cases hli : 0 < i
                · have d3 : (0 : Int) < (i : Int) := by omega
                  go_upto_region 36 with fail
                  have hl8 := shift_length (v0 := v0) (v1 := v1) (v2 := v2) (v3 := v3) (v4 := v4) (v5 := v5) (v6 := v6) (v7 := v7) i hi
                  have x0 := FS.out.cv (i - 1) (by omega)
                  have hst := Aside0.mk (shift_step (v0 := v0) (v1 := v1) (v2 := v2) (v3 := v3) (v4 := v4) (v5 := v5) (v6 := v6) (v7 := v7) i (by omega) hi)
                  obtain ⟨SL, hSL⟩ : ∃ SL, shiftL [v0, v1, v2, v3, v4, v5, v6, v7] i = SL := ⟨_, rfl⟩
                  rw [hSL] at x0 hl8
                  have hst : Aside0 (SL.set i (G SL (i - 1)) = shiftL [v0, v1, v2, v3, v4, v5, v6, v7] (i - 1)) := ⟨by rw [← hSL]; exact hst.out⟩
                  have FS : Aside0 (Fv w wr ks s (fill b 64) g SL) := ⟨by rw [← hSL]; exact FS.out⟩
                  clear hSL
                  generalize G SL (i - 1) = x at x0 hst
                  have a1 : (1 : Int) ≤ (i : Int) := by omega
                  have a2 : (i : Int) - 1 < 8 := by omega
                  have a3 : (0 : Int) ≤ (i : Int) ∧ (i : Int) < 8 := by omega
                  have k1 : IntKind.i64.wrap ((i : Int) - 1) = (i : Int) - 1 := IntWalk.i64_in _ (by omega)
                  have n1 : ((i : Int) - 1).toNat = i - 1 := by omega
                  have FS2 := FS
                  clear FS
                  obtain ⟨w3, hw3⟩ : ∃ w3, wr = w3 := ⟨_, rfl⟩
                  subst hw3
                  have hfz : wr.frozen? ⟨g, i, none⟩ = false := blk_frozen FS2.out.hv i
                  have hcl := FS2.out.cv i (by omega)
                  have FS3 : Aside0 (Fv w (wr.setCell ⟨g, i, none⟩ (.int .u32 (x : Int))) ks s (fill b 64) g (shiftL [v0, v1, v2, v3, v4, v5, v6, v7] (i - 1))) := ⟨by rw [← hst.out]; exact FS2.out.put i x⟩
                  have hi1 : (i : Int) - 1 = ((i - 1 : Nat) : Int) := by omega
                  clear hl8 hst
                  have hi1 := Aside0.mk hi1
                  go_wp2
                  go_roundw
                  case rel => first | exact ⟨i - 1, by omega, by rw [← hi1.out], FS3⟩ | ((repeat apply Exists.intro); exact ⟨⟨i - 1, by omega, by rw [← hi1.out], FS3⟩, rfl⟩)
                  case measure => simp [intOf]; omega
                · obtain rfl : i = 0 := by omega
                  clear hi hli
                  have FS2 : Aside0 (Fv w wr ks s (fill b 64) g [v0, v0, v1, v2, v3, v4, v5, v6]) := FS
                  clear FS
                  have x4 := FS2.out.cv 4 (by simp)
                  have x0 := FS2.out.cv 0 (by simp)
                  have xf := fun i => blk_frozen FS2.out.hv i
                  have FS3 : Aside0 (Fv w ((wr.setCell ⟨g, 4, none⟩ (.int .u32 (m4 : Int))).setCell ⟨g, 0, none⟩ (.int .u32 (m0 : Int))) ks s (fill b 64) g (vst ks (fill b 64) s (t + 1))) := ⟨by rw [hnew.out]; exact (FS2.out.put 4 m4).put 0 m0⟩
                  clear hnew
                  go_wp2
                  go_roundw
                  case rel => first | exact ⟨t + 1, by omega, by go_num, FS3⟩ | ((repeat apply Exists.intro); exact ⟨⟨t + 1, by omega, by go_num, FS3⟩, rfl⟩)
                  case measure => simp [intOf]; omega
            · obtain rfl : t = 64 := by omega
              clear ht ht0 hlt
              obtain ⟨V, hV⟩ : ∃ V, vst ks (fill b 64) s 64 = V := ⟨_, rfl⟩
              have hVl : V.length = 8 := by rw [← hV]; exact (vst_ok ks (fill b 64) s HS.out hsb 64).1
              have hVb : bnd V 4294967296 := by rw [← hV]; exact (vst_ok ks (fill b 64) s HS.out hsb 64).2
              rw [hV] at FS
              have HV := Aside0.mk hV
              have HVL := Aside0.mk hVl
              have HVB := Aside0.mk hVb
              clear hV hVl hVb
              have hsL := (Tryd.underlying114 : Tryd.prog.underlying 114 = _)
              go_wp2
              go_loopw [30] (fun v30 wr => ∃ i : Nat, i ≤ 8 ∧ v30 = .int .i64 i ∧ Aside0 (Fv w wr ks s (fill b 64) g (fin s V i))) (fun v30 _ => 8 - (intOf v30).toNat)
              case atStart => exact ⟨0, by omega, rfl, FS⟩
              case round =>
                clear FS
                obtain ⟨i, hi, rfl, FS⟩ := hrel
                have hi0 : (0 : Int) ≤ (i : Int) := by omega
                have hfl := (fin_ok s V HVL.out HVB.out i).1
                by_cases hlt : i < 8
                · have d1 : (i : Int) < 8 := by omega
                  go_upto_region 42 with fail
                  have x0 := FS.out.drew.cv i (by omega)
                  have x1 := FS.out.drew.cs i (by rw [HS.out]; omega)
                  have y0 : (0 : Int) ≤ (i : Int) ∧ (i : Int) < 8 := by omega
                  obtain ⟨r, e1, q1, g1⟩ := eadd (G (fin s V i) i) (G s i)
                  have hz : Aside0 (fin s V (i + 1) = (fin s V i).set i r) := ⟨by rw [g1.out]; rfl⟩
                  clear g1 q1
                  generalize G (fin s V i) i = a at x0 e1
                  generalize G s i = c at x1 e1
                  go_still_tail 9, (by kernel_rfl)
                  clear x0 x1 y0 e1
                  change wpList _ _ _ _ _ wr.drew
                  have FS2 := Aside0.mk FS.out.drew
                  clear FS
                  generalize wr.drew = w3 at FS2 ⊢
                  have hfz : w3.frozen? ⟨g, i, none⟩ = false := blk_frozen FS2.out.hv i
                  have hcl := FS2.out.cv i (by omega)
                  have FS3 : Aside0 (Fv w (w3.setCell ⟨g, i, none⟩ (.int .u32 (r : Int))) ks s (fill b 64) g (fin s V (i + 1))) := ⟨by rw [hz.out]; exact FS2.out.put i r⟩
                  clear hfl
                  go_wp2
                  go_roundw
                  case rel => first | exact ⟨i + 1, by omega, by go_num, FS3⟩ | ((repeat apply Exists.intro); exact ⟨⟨i + 1, by omega, by go_num, FS3⟩, rfl⟩)
                  case measure => simp [intOf]; omega
                · obtain rfl : i = 8 := by omega
                  clear hi hi0 hlt
                  obtain ⟨f0, f1, f2, f3, f4, f5, f6, f7, hf⟩ := eight hfl
                  have hres : Aside0 (block ks s b = [f0, f1, f2, f3, f4, f5, f6, f7]) := ⟨by rw [block, HV.out, ← fin_comm V s HVL.out HS.out, hf]⟩
                  rw [hf] at FS
                  clear hf hfl
                  have hlit : arr .u32 [f0, f1, f2, f3, f4, f5, f6, f7] = #[.int .u32 (f0 : Int), .int .u32 (f1 : Int), .int .u32 (f2 : Int), .int .u32 (f3 : Int), .int .u32 (f4 : Int), .int .u32 (f5 : Int), .int .u32 (f6 : Int), .int .u32 (f7 : Int)] := rfl
                  have hFs := FS.out.hv
                  rw [hlit] at hFs
                  have HFs := Aside0.mk hFs
                  have HO := Aside0.mk (FS.out.out (a := f0) (b := f1) (c := f2) (d := f3) (e := f4) (f := f5) (i := f6) (j := f7))
                  have xf := fun i => blk_frozen FS.out.hz i
                  have x0 : wr.cell? ⟨w.heap.size + 1 + 1 + 1, 0, none⟩ = some (.int .u32 0) := blk_cell FS.out.hz 0
                  have x1 : wr.cell? ⟨w.heap.size + 1 + 1 + 1, 1, none⟩ = some (.int .u32 0) := blk_cell FS.out.hz 1
                  have x2 : wr.cell? ⟨w.heap.size + 1 + 1 + 1, 2, none⟩ = some (.int .u32 0) := blk_cell FS.out.hz 2
                  have x3 : wr.cell? ⟨w.heap.size + 1 + 1 + 1, 3, none⟩ = some (.int .u32 0) := blk_cell FS.out.hz 3
                  have x4 : wr.cell? ⟨w.heap.size + 1 + 1 + 1, 4, none⟩ = some (.int .u32 0) := blk_cell FS.out.hz 4
                  have x5 : wr.cell? ⟨w.heap.size + 1 + 1 + 1, 5, none⟩ = some (.int .u32 0) := blk_cell FS.out.hz 5
                  have x6 : wr.cell? ⟨w.heap.size + 1 + 1 + 1, 6, none⟩ = some (.int .u32 0) := blk_cell FS.out.hz 6
                  have x7 : wr.cell? ⟨w.heap.size + 1 + 1 + 1, 7, none⟩ = some (.int .u32 0) := blk_cell FS.out.hz 7
                  simp only [World.setCells, Nat.zero_add] at HO
                  clear hFs hlit
                  go_wp2_with (refine wpList_load_row rfl 114 (.tmp 17) rfl g (by rfl) 114 _ (0, 0) _ HFs.out hsL rfl (by kernel_rfl) ?_)
                  exact bodyPost_ret (v := .agg (arr .u32 [f0, f1, f2, f3, f4, f5, f6, f7])) (results_cell_row rfl _ _ (w.heap.size + 1 + 1 + 1) 114 _ (0, 0) _ (by rfl) HO.out.1 hsL rfl (by kernel_rfl)) rfl ⟨by rw [hres.out], HO.out.2⟩
end Go.Proofs.YtpbnfnaebdmagaaDoor.Sha
