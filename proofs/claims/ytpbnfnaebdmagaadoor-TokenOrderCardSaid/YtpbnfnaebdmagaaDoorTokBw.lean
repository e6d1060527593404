/-
  TokenBits, walked.
-/
import Derived.Test.YtpbnfnaebdmagaaDoorH4
import Derived.Test.YtpbnfnaebdmagaaDoorPTx55
import Derived.Test.YtpbnfnaebdmagaaDoorTokF
import Derived.Tactics
import Derived.Tactics2
import Derived.StillTailTactics
namespace Go.Proofs.YtpbnfnaebdmagaaDoor.Tk
set_option linter.unusedVariables false
set_option linter.unusedSimpArgs false
open Go Go.RowKit Go.Proofs.YtpbnfnaebdmagaaDoor.Plain Go.Proofs.YtpbnfnaebdmagaaDoor.PT Go.Proofs.YtpbnfnaebdmagaaDoorW.PrintWords Go.Proofs.YtpbnfnaebdmagaaDoorW.PrintLast Go.Proofs.YtpbnfnaebdmagaaDoorW.PrintMore
attribute [local go_sem] max2_int min2_int max_two min_two max_three min_three max_four min_four   -- for this text's walks alone
theorem bytes_cell (W : World) (e : TypeId) (s : ByteArray) (p : Nat) (hp : p < s.size) : (Lib.bytesWorld W e s).cell? ⟨W.heap.size, p, none⟩ = some (.int .u8 (bt s (p : Int))) := by
  rw [Lib.bytesWorld_cell W e s p hp, bt_data _ _ hp]
theorem cells_at (W : World) (e : TypeId) (s : ByteArray) (p : Nat) (hp : p < s.size) : (Lib.bytesCells W e s)[p]? = some (.int .u8 (bt s (p : Int))) := by
  rw [← cell_of_row (Lib.bytesWorld W e s) W.heap.size p _ _ _ (Lib.bytesWorld_at_new W e s)]
  exact bytes_cell W e s p hp
theorem frozen_at {W w : World} {g : Nat} {e : TypeId} {s : ByteArray} {n : Nat} (h : w.heap[g]? = some (.cells (Lib.bytesCells W e s) e ((Lib.bytesCells W e s).size, n))) (p : Nat) (hp : p < s.size) : w.frozen? ⟨g, p, none⟩ = false := by
  have hsz : p < (Lib.bytesCells W e s).size := by simp [Lib.bytesCells]; omega
  simp [World.frozen?, h]
  omega
theorem tdiv8 (n : Nat) : Int.tdiv (n : Int) 8 = ((n / 8 : Nat) : Int) := by rw [Int.tdiv_eq_ediv_of_nonneg (by omega)]; omega
theorem tmod8 (n : Nat) : Int.tmod (n : Int) 8 = ((n % 8 : Nat) : Int) := by rw [Int.tmod_eq_emod_of_nonneg (by omega)]; omega
theorem tmod32 (n : Nat) : Int.tmod (n : Int) 32 = ((n % 32 : Nat) : Int) := by rw [Int.tmod_eq_emod_of_nonneg (by omega)]; omega
theorem wi_nat (q : Nat) (h : q < 9223372036854775808) : IntKind.i64.wrap (q : Int) = (q : Int) := by rw [wi64, w64 (by omega) (by omega)]
theorem sub32 {s : Nat} (h : 32 ≤ s) (h' : s ≤ 140737488351232) : IntKind.i64.wrap ((s : Int) - 32) = ((s - 32 : Nat) : Int) := by rw [wi64, w64 (by omega) (by omega)]; omega
theorem add_wi {p a b : Nat} (h : p = a + b) (h' : p < 9223372036854775808) : IntKind.i64.wrap ((a : Int) + (b : Int)) = (p : Int) := by rw [wi64, w64 (by omega) (by omega)]; omega
theorem max0 (n : Nat) : (if 0 < n then (n : Int) else 0) = (n : Int) := by split <;> omega
theorem shl8 {e : Nat} (h : e < 8) : shl .u8 1 (e : Int) = 2 ^ e := by
  rcases (show e = 0 ∨ e = 1 ∨ e = 2 ∨ e = 3 ∨ e = 4 ∨ e = 5 ∨ e = 6 ∨ e = 7 by omega) with rfl | rfl | rfl | rfl | rfl | rfl | rfl | rfl <;> rfl
theorem pow8_256 {e : Nat} (h : e < 8) : (2 : Int) ^ e % 256 = 2 ^ e := by
  rcases (show e = 0 ∨ e = 1 ∨ e = 2 ∨ e = 3 ∨ e = 4 ∨ e = 5 ∨ e = 6 ∨ e = 7 by omega) with rfl | rfl | rfl | rfl | rfl | rfl | rfl | rfl <;> rfl
theorem reads_lt {W : World} {g n : Nat} {xs : List Int} (h : ReadsInt W .u8 (some ⟨g, 0, none⟩) n xs) (hn : 32 ≤ n) : g < W.heap.size := by
  obtain ⟨ad, e, hc⟩ := h.2.2 (by omega)
  obtain rfl := Option.some.inj e
  have h0 := hc 0 (by omega)
  rw [add_plain] at h0
  rcases Nat.lt_or_ge g W.heap.size with h1 | h1
  · exact h1
  · have : W.heap[g]? = none := Array.getElem?_eq_none h1
    simp [World.cell?, this] at h0
theorem reads_far {W : World} {g n : Nat} {xs : List Int} (h : ReadsInt W .u8 (some ⟨g, 0, none⟩) n xs) {b : Nat} (hb : g ≠ b) (i : Nat) (v : Value) : ReadsInt (W.setCell ⟨b, i, none⟩ v) .u8 (some ⟨g, 0, none⟩) n xs := by
  refine ⟨h.1, h.2.1, fun hp => ?_⟩
  obtain ⟨ad, e, hc⟩ := h.2.2 hp
  obtain rfl := Option.some.inj e
  refine ⟨_, rfl, fun j hj => ?_⟩
  have hc2 := hc j hj
  rw [add_plain] at hc2 ⊢
  rw [World.cell?_setCell_other _ _ _ _ (show (⟨b, i, none⟩ : Addr) ≠ ⟨g, j, none⟩ from fun e => hb (by injection e with e1 _; exact e1.symm)), hc2]
set_option maxHeartbeats 8000000 in
set_option maxRecDepth 100000 in
theorem bits_calls (k : Nat) (a0_0 a0_1 a0_2 a0_3 : Int) (a1_0 : ByteArray) (a1_1 a1_2 a2 : Int) (a b : Int) (t : ByteArray) (n p : Nat) (w : World) (HTab : Aside0 (Sha.Tab w))
    (hA : mx 0 a0_0 % 2147483648 = a) (hB : mx 0 a0_1 % 2147483648 = b) (hn : mx 0 a2 % 256 = (n : Int)) (hn256 : n < 256)
    (hm : token_Mint.f k a1_0 a b a0_2 a0_3 = some t) (hw : precinctlaw09_wakes.f k = some true) (h32 : 32 ≤ t.size) (hts : t.size ≤ 140737488351232) (hp : p = t.size - 32 + n / 8)
    (hv : token_Verify.f k a1_0 (strOfNums ((bytesOf t).set p (bits .xor .u8 (bt t (p : Int)) (2 ^ (n % 8))))) a0_3 a0_2 = some (0, 0, 0, 0, 20))
    (hs : token_Verify.f k a1_0 (strOfNums (((bytesOf t).set p (bits .xor .u8 (bt t (p : Int)) (2 ^ (n % 8)))).take (n % 32))) a0_3 a0_2 = some (0, 0, 0, 0, 3)) :
    Calls Tryd.prog 7 #[.agg #[.int .i64 a0_0, .int .i64 a0_1, .int .i64 a0_2, .int .i64 a0_3], .agg #[.string a1_0, .int .i64 a1_1, .int .i64 a1_2], .int .i64 a2] w fun e w' => e = .returned (.bool true) ∧ Below w.heap.size w w' := by
  have hu32 := Tryd.underlying32
  have hu38 := Tryd.underlying38
  have hu23 := Tryd.underlying23
  have HB := Aside0.mk (Below.refl w.heap.size w)
  have HM := Aside0.mk hm
  have HWk := Aside0.mk hw
  have HV := Aside0.mk hv
  have HS := Aside0.mk hs
  clear hm hw hv hs
  obtain ⟨x, hx⟩ : ∃ x : Int, (mx 0 a0_0) = x := ⟨_, rfl⟩
  obtain ⟨y, hy⟩ : ∃ x : Int, (mx 0 a0_1) = x := ⟨_, rfl⟩
  obtain ⟨z, hz⟩ : ∃ x : Int, (mx 0 a2) = x := ⟨_, rfl⟩
  have hx0 : 0 ≤ x := by (rw [← hx]; unfold mx; (repeat' split) <;> omega)
  have hy0 : 0 ≤ y := by (rw [← hy]; unfold mx; (repeat' split) <;> omega)
  have hz0 : 0 ≤ z := by (rw [← hz]; unfold mx; (repeat' split) <;> omega)
  have hx_ : (if 0 < a0_0 then a0_0 else 0) = x := hx
  have hy_ : (if 0 < a0_1 then a0_1 else 0) = y := hy
  have hz_ : (if 0 < a2 then a2 else 0) = z := hz
  rw [hx] at hA
  rw [hy] at hB
  rw [hz] at hn
  have hA2 : Int.tmod x 2147483648 = a := by rw [Int.tmod_eq_emod_of_nonneg hx0]; exact hA
  have hB2 : Int.tmod y 2147483648 = b := by rw [Int.tmod_eq_emod_of_nonneg hy0]; exact hB
  have hn2 : Int.tmod z 256 = (n : Int) := by rw [Int.tmod_eq_emod_of_nonneg hz0]; exact hn
  have kb := fun W => print_bytes (P := Tryd.prog) 9 45 5 Tryd.underlying9 Tryd.underlying45 Tryd.underlying5 t W
  go_enter Tryd.func7, Tryd.ntmps7
  go_upto_region 1 with (first
    | ((with_reducible refine gate_dst (N := 3) rfl ?_); refine box_event ?hg (N := 3) ?hd (cs := #[.int .i64 a0_0, .int .i64 a0_1, .int .i64 a0_2, .int .i64 a0_3]) (t := 32) ?hr ?_; (case hd => rfl); (case hg => rfl); (case hr => first | (go_simp; done) | (go_simp; rfl)); intro g1 hg w1 hbox hb; have HB1 := Aside0.mk (below_step HB.out hb); have BC := Aside0.mk hbox; have G1 := Aside0.mk (show w.heap.size ≤ g1 by rw [hg]; exact Nat.le_refl _); clear HB hb hbox hg)
    | ((with_reducible refine gate_dst (N := 4) rfl ?_); refine box_event ?hg (N := 4) ?hd (cs := #[.string a1_0, .int .i64 a1_1, .int .i64 a1_2]) (t := 38) ?hr ?_; (case hd => rfl); (case hg => rfl); (case hr => first | (go_simp; done) | (go_simp; rfl)); intro g2 hg w2 hbox hb; have HB2 := Aside0.mk (below_step HB1.out hb); have BC2 := Aside0.mk (blk_below BC.out hb); have BA := Aside0.mk hbox; have G2 := Aside0.mk (show w.heap.size ≤ g2 by rw [hg]; exact below_size HB1.out); have NE := Aside0.mk (show g1 ≠ g2 by rw [hg]; exact Nat.ne_of_lt (blk_lt BC.out)); clear HB1 BC hb hbox hg))
  have c0 := (blk_cell BC2.out 0).trans rfl
  have c1 := (blk_cell BC2.out 1).trans rfl
  have f0 := blk_frozen BC2.out 0
  have f1 := blk_frozen BC2.out 1
  go_upto_region 2 with fail
  have HB := Aside0.mk (below_set (below_set HB2.out G1.out (j := 0) (v := .int .i64 a)) G1.out (j := 1) (v := .int .i64 b))
  have BC := Aside0.mk (blk_put (blk_put BC2.out 0 (.int .i64 a) rfl) 1 (.int .i64 b) rfl)
  have BA3 := Aside0.mk (blk_far (p := ⟨g1, 1, none⟩) (blk_far (p := ⟨g1, 0, none⟩) BA.out (NE.out.symm) (.int .i64 a)) (NE.out.symm) (.int .i64 b))
  clear c0 c1 f0 f1 BA BC2 HB2
  have BA := BA3
  clear BA3
  generalize (w2.setCell ⟨g1, 0, none⟩ (.int .i64 a)).setCell ⟨g1, 1, none⟩ (.int .i64 b) = w3 at HB BC BA ⊢
  have hk := (blk_cell BA.out 0).trans rfl
  have hc0 := (blk_cell BC.out 0).trans rfl
  have hc1 := (blk_cell BC.out 1).trans rfl
  have hc2 := (blk_cell BC.out 2).trans rfl
  have hc3 := (blk_cell BC.out 3).trans rfl
  go_upto_region 3 with ((with_reducible refine gate_callee (f := 12) rfl ?_); refine goesL_ (some 25) rfl rfl Tryd.func12 (by kernel_rfl) rfl #[.string a1_0, .agg #[.int .i64 a, .int .i64 b, .int .i64 a0_2, .int .i64 a0_3]] rfl (by (try simp only [List.map_toArray, List.map_cons, List.map_nil]); first | done | rfl) ?_; (with_reducible refine (token_Mint.calls k a1_0 a b a0_2 a0_3 t _ HM.out).mono ?_); rintro e w4 ⟨rfl, hb⟩; refine ⟨_, rfl, ?_⟩; have n0_ := Aside0.mk (below_step HB.out hb); have n1_ := Aside0.mk (blk_below BC.out hb); have n2_ := Aside0.mk (blk_below BA.out hb); clear HB BC BA; have HB := n0_; have BC := n1_; have BA := n2_; clear n0_ n1_ n2_; clear hb)
  clear hk hc0 hc1 hc2 hc3 kb
  have HW0 := bytes_below (Below.refl w4.heap.size w4) (Nat.le_refl _) 5 t
  have hr := Aside0.mk (bytes_reads w4 5 t (by omega))
  have BS := Aside0.mk (Lib.bytesWorld_at_new w4 5 t)
  have n0_ := Aside0.mk (below_step HB.out HW0)
  have n1_ := Aside0.mk (blk_below BC.out HW0)
  have n2_ := Aside0.mk (blk_below BA.out HW0)
  have GS := Aside0.mk (below_size HB.out)
  have N1 := Aside0.mk (Nat.ne_of_lt (blk_lt BC.out))
  have N2 := Aside0.mk (Nat.ne_of_lt (blk_lt BA.out))
  have hcap := Aside0.mk (grownCap_ge w4 t.size 0 5)
  clear HB BC BA HW0
  have HB := n0_
  have BC := n1_
  have BA := n2_
  clear n0_ n1_ n2_
  generalize Lib.bytesWorld w4 5 t = W at HB BC BA hr BS ⊢
  generalize grownCap w4 t.size 0 5 = cap at hcap ⊢
  generalize w4.heap.size = gs at hr BS GS N1 N2 ⊢
  have hlen : decide ((t.size : Int) < 32) = false := decide_eq_false (by omega)
  go_upto_region 6 with ((with_reducible refine gate_callee (f := 11) rfl ?_); refine goesL_ (some 27) rfl rfl Tryd.func11 (by kernel_rfl) rfl #[] rfl (by (try simp only [List.map_toArray, List.map_cons, List.map_nil]); first | done | rfl) ?_; (with_reducible refine (precinctlaw09_wakes.calls k true _ HWk.out).mono ?_); rintro e w5 ⟨rfl, hb⟩; refine ⟨_, rfl, ?_⟩; have n0_ := Aside0.mk (below_step HB.out hb); have n1_ := Aside0.mk (blk_below BC.out hb); have n2_ := Aside0.mk (blk_below BA.out hb); clear HB BC BA; have HB := n0_; have BC := n1_; have BA := n2_; clear n0_ n1_ n2_; have n3_ := Aside0.mk (hr.out.below hb); have n4_ := Aside0.mk (blk_below BS.out hb); clear hr BS; have hr := n3_; have BS := n4_; clear n3_ n4_ hb)
  clear hlen hx hy hz hx_ hy_ hz_ hx0 hy0 hz0 hA hB hn hA2 hB2 hn2
  have hn1 : n < 256 := hn256
  have hpl : p < t.size := by omega
  have hq1 := tdiv8 n
  have hq2 := tmod8 n
  have hsb := sub32 h32 hts
  have hpw := add_wi hp (by omega)
  have hqw := wi_nat (n / 8) (by omega)
  have hi0 : (0 : Int) ≤ (p : Int) := Int.natCast_nonneg _
  have hi1 : (p : Int) < (t.size : Int) := Int.ofNat_lt.2 hpl
  have hcell : w5.cell? ⟨gs, p, none⟩ = some (.int .u8 (bt t (p : Int))) := (cell_of_row w5 gs p _ _ _ BS.out).trans (cells_at w4 5 t p hpl)
  have hfz : w5.frozen? ⟨gs, p, none⟩ = false := frozen_at BS.out p hpl
  have HP := Aside0.mk hp
  have HPL := Aside0.mk hpl
  have HN := Aside0.mk hn1
  have H32 := Aside0.mk h32
  have HTS := Aside0.mk hts
  clear hn1 hn256 hp h32 hts BS
  have hn8 : n % 8 < 8 := Nat.mod_lt _ (by decide)
  generalize hE : n % 8 = e at hq2 hn8 HV HS
  have HE := Aside0.mk hE
  clear hE
  generalize n / 8 = q at hq1 hqw hpw HP
  have he0 : (0 : Int) ≤ (e : Int) := Int.natCast_nonneg _
  have hsh := shl8 hn8
  have hew := wi_nat e (by omega)
  have hcell1 : w5.drew.cell? ⟨gs, p, none⟩ = some (.int .u8 (bt t (p : Int))) := hcell
  have hfz1 : w5.drew.frozen? ⟨gs, p, none⟩ = false := hfz
  have hr1 := Aside0.mk (hr.out.below (below_drew1 (Below.refl w5.heap.size w5)))
  have HB1 := Aside0.mk (below_drew1 HB.out)
  have BC1 := Aside0.mk (blk_drew BC.out)
  have BA1 := Aside0.mk (blk_drew BA.out)
  clear hcell hfz hr HB BC BA
  go_still_tail 14, (by kernel_rfl)
  change wpList _ _ _ _ _ w5.drew
  generalize w5.drew = W1 at hcell1 hfz1 hr1 HB1 BC1 BA1 ⊢
  go_upto_region 7 with fail
  rw [pow8_256 hn8]
  have hr := Aside0.mk (Ms.reads_set hr1.out p HPL.out (bits .xor .u8 (bt t (p : Int)) (2 ^ e)) hcell1)
  have HB := Aside0.mk (below_set (j := p) (v := .int .u8 (bits .xor .u8 (bt t (p : Int)) (2 ^ e))) HB1.out GS.out)
  have BC := Aside0.mk (blk_far (p := ⟨gs, p, none⟩) BC1.out N1.out (.int .u8 (bits .xor .u8 (bt t (p : Int)) (2 ^ e))))
  have BA := Aside0.mk (blk_far (p := ⟨gs, p, none⟩) BA1.out N2.out (.int .u8 (bits .xor .u8 (bt t (p : Int)) (2 ^ e))))
  clear hr1 HB1 BC1 BA1 hcell1 hfz1
  generalize W1.setCell ⟨gs, p, none⟩ (.int .u8 (bits .xor .u8 (bt t (p : Int)) (2 ^ e))) = w5' at hr HB BC BA ⊢
  generalize (bytesOf t).set p (bits .xor .u8 (bt t (p : Int)) (2 ^ e)) = xs at HV HS hr
  clear hq1 hq2 hsb hpw hqw hi0 hi1 hsh hew he0 hpl
  have hk := (blk_cell BA.out 0).trans rfl
  have hc2 := (blk_cell BC.out 2).trans rfl
  have hc3 := (blk_cell BC.out 3).trans rfl
  have ks0 := string_of_reads (P := Tryd.prog) Tryd.underlying45 Tryd.underlying5 Tryd.underlying9 hr.out (c := cap)
  go_upto_region 8 with (first
    | ((with_reducible refine gate_callee (f := 16) rfl ?_); refine goesL_ (some 60) rfl rfl Tryd.func16 (by kernel_rfl) rfl #[.string a1_0, .string (strOfNums xs), .int .i64 a0_3, .int .i64 a0_2] rfl (by (try simp only [List.map_toArray, List.map_cons, List.map_nil]); first | done | rfl) ?_; (with_reducible refine (token_Verify.calls k a1_0 (strOfNums xs) a0_3 a0_2 0 0 0 0 20 _ HV.out).mono ?_); rintro e_ w6 ⟨rfl, hb⟩; refine ⟨_, rfl, ?_⟩; have n0_ := Aside0.mk (below_step HB.out hb); have n1_ := Aside0.mk (blk_below BC.out hb); have n2_ := Aside0.mk (blk_below BA.out hb); have n3_ := Aside0.mk (hr.out.below hb); clear HB BC BA hr; have HB := n0_; have BC := n1_; have BA := n2_; have hr := n3_; clear n0_ n1_ n2_ n3_; clear hb)
    | ((with_reducible refine gate_dst (N := 8) rfl ?_); refine box_event ?hg (N := 8) ?hd (cs := #[.int .i64 0, .int .i64 0, .int .i64 0, .int .i64 0]) (t := 23) ?hr ?_; (case hd => rfl); (case hg => rfl); (case hr => first | (go_simp; done) | (go_simp; rfl)); intro g8 hg w7 hbox hb; have N18 := Aside0.mk (show g1 ≠ g8 by rw [hg]; exact Nat.ne_of_lt (blk_lt BC.out)); have N28 := Aside0.mk (show g2 ≠ g8 by rw [hg]; exact Nat.ne_of_lt (blk_lt BA.out)); have G8 := Aside0.mk (show w.heap.size ≤ g8 by rw [hg]; exact below_size HB.out); have NS8 := Aside0.mk (show gs ≠ g8 by rw [hg]; exact Nat.ne_of_lt (reads_lt hr.out H32.out)); have n0_ := Aside0.mk (below_step HB.out hb); have n1_ := Aside0.mk (blk_below BC.out hb); have n2_ := Aside0.mk (blk_below BA.out hb); have n3_ := Aside0.mk (hr.out.below hb); clear HB BC BA hr; have HB := n0_; have BC := n1_; have BA := n2_; have hr := n3_; clear n0_ n1_ n2_ n3_; have z0 := (blk_cell hbox 0).trans rfl; have z1 := (blk_cell hbox 1).trans rfl; have z2 := (blk_cell hbox 2).trans rfl; have z3 := (blk_cell hbox 3).trans rfl; have q0 := blk_frozen hbox 0; have q1 := blk_frozen hbox 1; have q2 := blk_frozen hbox 2; have q3 := blk_frozen hbox 3; clear hg hb hbox))
  have n0_ := Aside0.mk (below_set (j := 3) (v := .int .i64 0) (below_set (j := 2) (v := .int .i64 0) (below_set (j := 1) (v := .int .i64 0) (below_set (j := 0) (v := .int .i64 0) HB.out G8.out) G8.out) G8.out) G8.out)
  have n1_ := Aside0.mk (blk_far (p := ⟨g8, 3, none⟩) (blk_far (p := ⟨g8, 2, none⟩) (blk_far (p := ⟨g8, 1, none⟩) (blk_far (p := ⟨g8, 0, none⟩) BC.out N18.out (.int .i64 0)) N18.out (.int .i64 0)) N18.out (.int .i64 0)) N18.out (.int .i64 0))
  have n2_ := Aside0.mk (blk_far (p := ⟨g8, 3, none⟩) (blk_far (p := ⟨g8, 2, none⟩) (blk_far (p := ⟨g8, 1, none⟩) (blk_far (p := ⟨g8, 0, none⟩) BA.out N28.out (.int .i64 0)) N28.out (.int .i64 0)) N28.out (.int .i64 0)) N28.out (.int .i64 0))
  have n3_ := Aside0.mk (reads_far (reads_far (reads_far (reads_far hr.out NS8.out 0 (.int .i64 0)) NS8.out 1 (.int .i64 0)) NS8.out 2 (.int .i64 0)) NS8.out 3 (.int .i64 0))
  clear HB BC BA hr hk hc2 hc3 ks0 z0 z1 z2 z3 q0 q1 q2 q3
  have HB := n0_
  have BC := n1_
  have BA := n2_
  have hr := n3_
  clear n0_ n1_ n2_ n3_
  generalize (((w7.setCell ⟨g8, 0, none⟩ (.int .i64 0)).setCell ⟨g8, 1, none⟩ (.int .i64 0)).setCell ⟨g8, 2, none⟩ (.int .i64 0)).setCell ⟨g8, 3, none⟩ (.int .i64 0) = w8 at HB BC BA hr ⊢
  have hmx := max0 n
  have htm := tmod32 n
  have hn32 : n % 32 < 32 := Nat.mod_lt _ (by decide)
  have HM32 := Aside0.mk hn32
  obtain ⟨m, hm⟩ : ∃ m : Nat, n % 32 = m := ⟨_, rfl⟩
  rw [hm] at htm hn32
  have HS2 : Aside0 (token_Verify.f k a1_0 (strOfNums (xs.take m)) a0_3 a0_2 = some (0, 0, 0, 0, 3)) := ⟨by have z_ := HS.out; rw [hm] at z_; exact z_⟩
  clear HS hm HM32
  have hmc : m ≤ cap := by have := H32.out; have := hcap.out; omega
  have hHeldS : ∀ w' : World, Below w8.heap.size w8 w' → (fun w' => w'.cell? ⟨g2, 0, none⟩ = some (.string a1_0) ∧ w'.cell? ⟨g1, 3, none⟩ = some (.int .i64 a0_3) ∧ w'.cell? ⟨g1, 2, none⟩ = some (.int .i64 a0_2) ∧ (convert 45 9 (.slice (some ⟨gs, 0, none⟩) m cap)).run Tryd.prog w' = .ok (.string (strOfNums (xs.take m))) w') w' := fun w' hb => ⟨(blk_cell (blk_below BA.out hb) 0).trans rfl, (blk_cell (blk_below BC.out hb) 3).trans rfl, (blk_cell (blk_below BC.out hb) 2).trans rfl, string_of_reads (P := Tryd.prog) Tryd.underlying45 Tryd.underlying5 Tryd.underlying9 ((hr.out.below hb).take_ m (by have := H32.out; omega)) (c := cap)⟩
  refine start_ (n := 19) (ds := []) (S := fun w' => w'.cell? ⟨g2, 0, none⟩ = some (.string a1_0) ∧ w'.cell? ⟨g1, 3, none⟩ = some (.int .i64 a0_3) ∧ w'.cell? ⟨g1, 2, none⟩ = some (.int .i64 a0_2) ∧ (convert 45 9 (.slice (some ⟨gs, 0, none⟩) m cap)).run Tryd.prog w' = .ok (.string (strOfNums (xs.take m))) w') #[false, false, false, false, false, false, false, false, false, false, false, false, false, false, false, false, false, false, false] (by kernel_rfl) rfl rfl (hHeldS _ (below_drew1 (Below.refl _ _))) (fun hHeld => ?_)
  refine pure_ (i := 0) (N := some 64) (v := ?_) (a' := ?_) #[true, false, false, false, false, false, false, false, false, false, false, false, false, false, false, false, false, false, false] rfl rfl (by kernel_rfl) (fun _ _ _ h => h) (Or.inl ⟨by rfl, ?_⟩) ?_ ?_
  rotate_left
  · intro w'
    go_simp
    with_reducible rfl
  rotate_left
  · simp only [Act.put, List.setIfInBounds_toArray, List.set_cons_zero, List.set_cons_succ, i64_w, i32_w]
    rfl
  refine take_ (i := 1) (N := some 65) (v := ?_) (a' := ?_) #[true, true, false, false, false, false, false, false, false, false, false, false, false, false, false, false, false, false, false] rfl rfl (by kernel_rfl) (fun _ _ _ h => h) (Or.inl ⟨by rfl, ?_⟩) hHeld ?_ ?_
  rotate_left
  · rintro w' ⟨s0, s1, s2, s3⟩
    go_simp
    with_reducible rfl
  rotate_left
  · simp only [Act.put, List.setIfInBounds_toArray, List.set_cons_zero, List.set_cons_succ, i64_w, i32_w]
    rfl
  refine pure_ (i := 2) (N := some 66) (v := ?_) (a' := ?_) #[true, true, true, false, false, false, false, false, false, false, false, false, false, false, false, false, false, false, false] rfl rfl (by kernel_rfl) (fun _ _ _ h => h) (Or.inl ⟨by rfl, ?_⟩) ?_ ?_
  rotate_left
  · intro w'
    go_simp
    with_reducible rfl
  rotate_left
  · simp only [Act.put, List.setIfInBounds_toArray, List.set_cons_zero, List.set_cons_succ, i64_w, i32_w]
    rfl
  refine pure_ (i := 3) (N := some 67) (v := ?_) (a' := ?_) #[true, true, true, true, false, false, false, false, false, false, false, false, false, false, false, false, false, false, false] rfl rfl (by kernel_rfl) (fun _ _ _ h => h) (Or.inl ⟨by rfl, ?_⟩) ?_ ?_
  rotate_left
  · intro w'
    go_simp
    with_reducible rfl
  rotate_left
  · simp only [Act.put, List.setIfInBounds_toArray, List.set_cons_zero, List.set_cons_succ, i64_w, i32_w]
    rfl
  refine pure_ (i := 4) (N := some 68) (v := ?_) (a' := ?_) #[true, true, true, true, true, false, false, false, false, false, false, false, false, false, false, false, false, false, false] rfl rfl (by kernel_rfl) (fun _ _ _ h => h) (Or.inl ⟨by rfl, ?_⟩) ?_ ?_
  rotate_left
  · intro w'
    go_simp
    with_reducible rfl
  rotate_left
  · simp only [Act.put, List.setIfInBounds_toArray, List.set_cons_zero, List.set_cons_succ, i64_w, i32_w]
    rfl
  refine pure_ (i := 5) (N := some 69) (v := ?_) (a' := ?_) #[true, true, true, true, true, true, false, false, false, false, false, false, false, false, false, false, false, false, false] rfl rfl (by kernel_rfl) (fun _ _ _ h => h) (Or.inl ⟨by rfl, ?_⟩) ?_ ?_
  rotate_left
  · intro w'
    go_simp
    with_reducible rfl
  rotate_left
  · simp only [Act.put, List.setIfInBounds_toArray, List.set_cons_zero, List.set_cons_succ, i64_w, i32_w]
    rfl
  refine pure_ (i := 6) (N := some 70) (v := ?_) (a' := ?_) #[true, true, true, true, true, true, true, false, false, false, false, false, false, false, false, false, false, false, false] rfl rfl (by kernel_rfl) (fun _ _ _ h => h) (Or.inl ⟨by rfl, ?_⟩) ?_ ?_
  rotate_left
  · intro w'
    go_simp
    with_reducible rfl
  rotate_left
  · simp only [Act.put, List.setIfInBounds_toArray, List.set_cons_zero, List.set_cons_succ, i64_w, i32_w]
    rfl
  refine take_ (i := 7) (N := some 71) (v := ?_) (a' := ?_) #[true, true, true, true, true, true, true, true, false, false, false, false, false, false, false, false, false, false, false] rfl rfl (by kernel_rfl) (fun _ _ _ h => h) (Or.inl ⟨by rfl, ?_⟩) hHeld ?_ ?_
  rotate_left
  · rintro w' ⟨s0, s1, s2, s3⟩
    go_simp
    with_reducible rfl
  rotate_left
  · simp only [Act.put, List.setIfInBounds_toArray, List.set_cons_zero, List.set_cons_succ, i64_w, i32_w]
    rfl
  refine pure_ (i := 8) (N := some 72) (v := ?_) (a' := ?_) #[true, true, true, true, true, true, true, true, true, false, false, false, false, false, false, false, false, false, false] rfl rfl (by kernel_rfl) (fun _ _ _ h => h) (Or.inl ⟨by rfl, ?_⟩) ?_ ?_
  rotate_left
  · intro w'
    go_simp
    with_reducible rfl
  rotate_left
  · simp only [Act.put, List.setIfInBounds_toArray, List.set_cons_zero, List.set_cons_succ, i64_w, i32_w]
    rfl
  refine take_ (i := 9) (N := some 73) (v := ?_) (a' := ?_) #[true, true, true, true, true, true, true, true, true, true, false, false, false, false, false, false, false, false, false] rfl rfl (by kernel_rfl) (fun _ _ _ h => h) (Or.inl ⟨by rfl, ?_⟩) hHeld ?_ ?_
  rotate_left
  · rintro w' ⟨s0, s1, s2, s3⟩
    go_simp
    with_reducible rfl
  rotate_left
  · simp only [Act.put, List.setIfInBounds_toArray, List.set_cons_zero, List.set_cons_succ, i64_w, i32_w]
    rfl
  refine pure_ (i := 10) (N := some 74) (v := ?_) (a' := ?_) #[true, true, true, true, true, true, true, true, true, true, true, false, false, false, false, false, false, false, false] rfl rfl (by kernel_rfl) (fun _ _ _ h => h) (Or.inl ⟨by rfl, ?_⟩) ?_ ?_
  rotate_left
  · intro w'
    go_simp
    with_reducible rfl
  rotate_left
  · simp only [Act.put, List.setIfInBounds_toArray, List.set_cons_zero, List.set_cons_succ, i64_w, i32_w]
    rfl
  refine take_ (i := 11) (N := some 75) (v := ?_) (a' := ?_) #[true, true, true, true, true, true, true, true, true, true, true, true, false, false, false, false, false, false, false] rfl rfl (by kernel_rfl) (fun _ _ _ h => h) (Or.inl ⟨by rfl, ?_⟩) hHeld ?_ ?_
  rotate_left
  · rintro w' ⟨s0, s1, s2, s3⟩
    go_simp
    with_reducible rfl
  rotate_left
  · simp only [Act.put, List.setIfInBounds_toArray, List.set_cons_zero, List.set_cons_succ, i64_w, i32_w]
    rfl
  have hb8 : Below w8.heap.size w8 w8.drew := below_drew1 (Below.refl w8.heap.size w8)
  have HB9 := Aside0.mk (below_step HB.out hb8)
  have HB8 := HB
  clear HB
  have HB := HB9
  clear HB9
  generalize w8.drew = w9 at hHeld hb8 HB ⊢
  refine join_ (σ := Nat) 2 #[true, true, true, true, true, true, true, true, true, true, true, true, true, true, true, true, true, false, false] (fun s => [(76, .tuple #[.agg #[.int .i64 0, .int .i64 0, .int .i64 0, .int .i64 0], .int .i64 3]), (63, .tuple #[.agg #[.int .i64 0, .int .i64 0, .int .i64 0, .int .i64 0], .int .i64 3]), (77, .agg #[.int .i64 0, .int .i64 0, .int .i64 0, .int .i64 0]), (78, .int .i64 3), (10, .pointer (some ⟨s, 0, none⟩))]) (fun s w' => w8.heap.size ≤ s ∧ w'.heap[s]? = some (.cells #[.int .i64 0, .int .i64 0, .int .i64 0, .int .i64 0] 23 (0, 0)) ∧ Below w8.heap.size w8 w') ?_ (fun hcont => ?_)
  · rintro s w6_ ⟨gv, hv, hb⟩
    (try dsimp only at gv hv hb)
    have c0 : w6_.cell? ⟨s, 0, none⟩ = some (.int .i64 0) := (blk_cell hv 0).trans rfl
    have p0 := blk_frozen hv 0
    have c1 : w6_.cell? ⟨s, 1, none⟩ = some (.int .i64 0) := (blk_cell hv 1).trans rfl
    have p1 := blk_frozen hv 1
    have c2 : w6_.cell? ⟨s, 2, none⟩ = some (.int .i64 0) := (blk_cell hv 2).trans rfl
    have p2 := blk_frozen hv 2
    have c3 : w6_.cell? ⟨s, 3, none⟩ = some (.int .i64 0) := (blk_cell hv 3).trans rfl
    have p3 := blk_frozen hv 3
    refine norm_ (a' := ?_) ?_ ?_
    rotate_left
    · simp only [putAll, Act.put, List.setIfInBounds_toArray, List.set_cons_zero, List.set_cons_succ]
      rfl
    refine one_ (i := 17) (N := none) #[true, true, true, true, true, true, true, true, true, true, true, true, true, true, true, true, true, true, false] rfl rfl (by kernel_rfl) (by simp) (fun K hK => ?_)
    refine skip_ (w1 := (((w6_.setCell ⟨s, 0, none⟩ (.int .i64 0)).setCell ⟨s, 1, none⟩ (.int .i64 0)).setCell ⟨s, 2, none⟩ (.int .i64 0)).setCell ⟨s, 3, none⟩ (.int .i64 0)) (by rfl) rfl ?_ ?_
    · first | (go_simp; done) | (go_simp; with_reducible rfl)
    have hb1 := ((((hb.setCell (p := ⟨s, 0, none⟩) gv (.int .i64 0)).setCell (p := ⟨s, 1, none⟩) gv (.int .i64 0)).setCell (p := ⟨s, 2, none⟩) gv (.int .i64 0)).setCell (p := ⟨s, 3, none⟩) gv (.int .i64 0))
    generalize (((w6_.setCell ⟨s, 0, none⟩ (.int .i64 0)).setCell ⟨s, 1, none⟩ (.int .i64 0)).setCell ⟨s, 2, none⟩ (.int .i64 0)).setCell ⟨s, 3, none⟩ (.int .i64 0) = w7_ at hb1 ⊢
    refine hK.out _ _ (hHeldS _ hb1) (fun hHeld => ?_)
    clear hK K c0 c1 c2 c3 p0 p1 p2 p3
    refine pure_ (i := 18) (N := some 11) (v := ?_) (a' := ?_) #[true, true, true, true, true, true, true, true, true, true, true, true, true, true, true, true, true, true, true] rfl rfl (by kernel_rfl) (fun _ _ _ h => h) (Or.inl ⟨by rfl, ?_⟩) ?_ ?_
    rotate_left
    · intro w'
      go_simp
      with_reducible rfl
    rotate_left
    · simp only [Act.put, List.setIfInBounds_toArray, List.set_cons_zero, List.set_cons_succ, i64_w, i32_w]
      rfl
    refine done_ (by kernel_rfl) ?_
    clear hHeld hHeldS hb hv
    have HBe := below_step HB8.out hb1
    go_wp2
    go_ret
    exact ⟨rfl, HBe⟩
  refine two_ (i := 12) (j := 16) (Ni := some 76) (Nj := some 10) #[true, true, true, true, true, true, true, true, true, true, true, true, true, false, false, false, false, false, false] #[true, true, true, true, true, true, true, true, true, true, true, true, false, false, false, false, true, false, false] rfl rfl rfl rfl (by kernel_rfl) (by simp) (by simp) (fun K hK => ?_) (fun K hK => ?_)
  · refine goes_ Tryd.func16 (by kernel_rfl) rfl #[.string a1_0, .string (strOfNums (xs.take m)), .int .i64 a0_3, .int .i64 a0_2] (by rfl) rfl rfl (by first | rfl | (simp only [List.map_toArray, List.map_cons, List.map_nil]; done) | (simp only [List.map_toArray, List.map_cons, List.map_nil]; rfl)) ?_
    refine (token_Verify.calls k a1_0 (strOfNums (xs.take m)) a0_3 a0_2 0 0 0 0 3 _ HS2.out).mono ?_
    rintro e_ w10 ⟨rfl, hb⟩
    refine ⟨_, rfl, ?_⟩
    have hb10 := below_step hb8 hb
    refine hK.out _ _ (hHeldS _ hb10) (fun hHeld => ?_)
    clear hK K hb
    refine norm_ (a' := ?_) ?_ ?_
    rotate_left
    · show Act.put _ (some 76) _ = _
      simp only [Act.put, List.setIfInBounds_toArray, List.set_cons_zero, List.set_cons_succ, i64_w, i32_w]
      rfl
    refine pure_ (i := 13) (N := some 63) (v := ?_) (a' := ?_) #[true, true, true, true, true, true, true, true, true, true, true, true, true, true, false, false, false, false, false] rfl rfl (by kernel_rfl) (fun _ _ _ h => h) (Or.inl ⟨by rfl, ?_⟩) ?_ ?_
    rotate_left
    · intro w'
      go_simp
      with_reducible rfl
    rotate_left
    · simp only [Act.put, List.setIfInBounds_toArray, List.set_cons_zero, List.set_cons_succ, i64_w, i32_w]
      rfl
    refine pure_ (i := 14) (N := some 77) (v := ?_) (a' := ?_) #[true, true, true, true, true, true, true, true, true, true, true, true, true, true, true, false, false, false, false] rfl rfl (by kernel_rfl) (fun _ _ _ h => h) (Or.inl ⟨by rfl, ?_⟩) ?_ ?_
    rotate_left
    · intro w'
      go_simp
      with_reducible rfl
    rotate_left
    · simp only [Act.put, List.setIfInBounds_toArray, List.set_cons_zero, List.set_cons_succ, i64_w, i32_w]
      rfl
    refine pure_ (i := 15) (N := some 78) (v := ?_) (a' := ?_) #[true, true, true, true, true, true, true, true, true, true, true, true, true, true, true, true, false, false, false] rfl rfl (by kernel_rfl) (fun _ _ _ h => h) (Or.inl ⟨by rfl, ?_⟩) ?_ ?_
    rotate_left
    · intro w'
      go_simp
      with_reducible rfl
    rotate_left
    · simp only [Act.put, List.setIfInBounds_toArray, List.set_cons_zero, List.set_cons_succ, i64_w, i32_w]
      rfl
    refine one_ (i := 16) (N := some 10) #[true, true, true, true, true, true, true, true, true, true, true, true, true, true, true, true, true, false, false] rfl rfl (by kernel_rfl) (by simp) (fun K hK => ?_)
    refine value_ (w1 := w10.alloc (.cells #[.int .i64 0, .int .i64 0, .int .i64 0, .int .i64 0] 23)) (v := .pointer (some ⟨w10.heap.size, 0, none⟩)) (by rfl) rfl ?_ ?_
    · first | (go_simp; done) | (go_simp; with_reducible rfl)
    refine hK.out _ _ (hHeldS _ (below_alloc hb10 _)) (fun hHeld => ?_)
    clear hK K
    have hc := hcont w10.heap.size (w10.alloc (.cells #[.int .i64 0, .int .i64 0, .int .i64 0, .int .i64 0] 23)) ⟨below_size hb10, blk_new w10 _, below_alloc hb10 _⟩
    simp only [putAll, Act.put, List.setIfInBounds_toArray, List.set_cons_zero, List.set_cons_succ] at hc
    refine norm_ (a' := ?_) ?_ ?_
    rotate_left
    · show Act.put _ (some 10) _ = _
      simp only [Act.put, List.setIfInBounds_toArray, List.set_cons_zero, List.set_cons_succ, i64_w, i32_w]
      rfl
    exact hc
  · refine value_ (w1 := w9.alloc (.cells #[.int .i64 0, .int .i64 0, .int .i64 0, .int .i64 0] 23)) (v := .pointer (some ⟨w9.heap.size, 0, none⟩)) (by rfl) rfl ?_ ?_
    · first | (go_simp; done) | (go_simp; with_reducible rfl)
    have hb10 := below_alloc hb8 (.cells #[.int .i64 0, .int .i64 0, .int .i64 0, .int .i64 0] 23)
    have hv10 := blk_new w9 (.cells #[.int .i64 0, .int .i64 0, .int .i64 0, .int .i64 0] 23)
    have hg10 := below_size hb8
    have HB10 := Aside0.mk (below_alloc HB.out (.cells #[.int .i64 0, .int .i64 0, .int .i64 0, .int .i64 0] 23))
    clear HB
    have HB := HB10
    clear HB10
    generalize w9.heap.size = g10 at hv10 hg10 ⊢
    generalize w9.alloc (.cells #[.int .i64 0, .int .i64 0, .int .i64 0, .int .i64 0] 23) = w10 at hb10 hv10 HB ⊢
    refine hK.out _ _ (hHeldS _ hb10) (fun hHeld => ?_)
    clear hK K
    refine norm_ (a' := ?_) ?_ ?_
    rotate_left
    · show Act.put _ (some 10) _ = _
      simp only [Act.put, List.setIfInBounds_toArray, List.set_cons_zero, List.set_cons_succ, i64_w, i32_w]
      rfl
    refine one_ (i := 12) (N := some 76) #[true, true, true, true, true, true, true, true, true, true, true, true, true, false, false, false, true, false, false] rfl rfl (by kernel_rfl) (by simp) (fun K hK => ?_)
    refine goes_ Tryd.func16 (by kernel_rfl) rfl #[.string a1_0, .string (strOfNums (xs.take m)), .int .i64 a0_3, .int .i64 a0_2] (by rfl) rfl rfl (by first | rfl | (simp only [List.map_toArray, List.map_cons, List.map_nil]; done) | (simp only [List.map_toArray, List.map_cons, List.map_nil]; rfl)) ?_
    refine (token_Verify.calls k a1_0 (strOfNums (xs.take m)) a0_3 a0_2 0 0 0 0 3 _ HS2.out).mono ?_
    rintro e_ w11 ⟨rfl, hb⟩
    refine ⟨_, rfl, ?_⟩
    have hb11 := below_step hb10 hb
    have hv11 := blk_below hv10 hb
    refine hK.out _ _ (hHeldS _ hb11) (fun hHeld => ?_)
    clear hK K hb
    refine norm_ (a' := ?_) ?_ ?_
    rotate_left
    · show Act.put _ (some 76) _ = _
      simp only [Act.put, List.setIfInBounds_toArray, List.set_cons_zero, List.set_cons_succ, i64_w, i32_w]
      rfl
    refine pure_ (i := 13) (N := some 63) (v := ?_) (a' := ?_) #[true, true, true, true, true, true, true, true, true, true, true, true, true, true, false, false, true, false, false] rfl rfl (by kernel_rfl) (fun _ _ _ h => h) (Or.inl ⟨by rfl, ?_⟩) ?_ ?_
    rotate_left
    · intro w'
      go_simp
      with_reducible rfl
    rotate_left
    · simp only [Act.put, List.setIfInBounds_toArray, List.set_cons_zero, List.set_cons_succ, i64_w, i32_w]
      rfl
    refine pure_ (i := 14) (N := some 77) (v := ?_) (a' := ?_) #[true, true, true, true, true, true, true, true, true, true, true, true, true, true, true, false, true, false, false] rfl rfl (by kernel_rfl) (fun _ _ _ h => h) (Or.inl ⟨by rfl, ?_⟩) ?_ ?_
    rotate_left
    · intro w'
      go_simp
      with_reducible rfl
    rotate_left
    · simp only [Act.put, List.setIfInBounds_toArray, List.set_cons_zero, List.set_cons_succ, i64_w, i32_w]
      rfl
    refine pure_ (i := 15) (N := some 78) (v := ?_) (a' := ?_) #[true, true, true, true, true, true, true, true, true, true, true, true, true, true, true, true, true, false, false] rfl rfl (by kernel_rfl) (fun _ _ _ h => h) (Or.inl ⟨by rfl, ?_⟩) ?_ ?_
    rotate_left
    · intro w'
      go_simp
      with_reducible rfl
    rotate_left
    · simp only [Act.put, List.setIfInBounds_toArray, List.set_cons_zero, List.set_cons_succ, i64_w, i32_w]
      rfl
    have hc := hcont g10 w11 ⟨hg10, hv11, hb11⟩
    simp only [putAll, Act.put, List.setIfInBounds_toArray, List.set_cons_zero, List.set_cons_succ] at hc
    exact hc
end Go.Proofs.YtpbnfnaebdmagaaDoor.Tk
