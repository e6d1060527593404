/-
  What token.Parse comes to.
  The document's With and Sum.
  The digest of "abc".
  The statements ShaSums and ShaWhole, walked.
  mac: a key laid, the program's way.
  What token.Mint comes to; what is minted is parsed.
-/
import Derived.Test.YtpbnfnaebdmagaaDoorPTx12
import Derived.Test.YtpbnfnaebdmagaaDoorH2
import Derived.Test.YtpbnfnaebdmagaaDoorH3
import Derived.Test.YtpbnfnaebdmagaaDoorH1
import Derived.Test.YtpbnfnaebdmagaaDoorShaRef
import Derived.Test.YtpbnfnaebdmagaaDoorH0
namespace Go.Proofs.YtpbnfnaebdmagaaDoor.Tk
set_option linter.unusedVariables false
set_option linter.unusedSimpArgs false
open Go Go.RowKit Go.Proofs.YtpbnfnaebdmagaaDoor.Plain Go.Proofs.YtpbnfnaebdmagaaDoor.Words Go.Proofs.YtpbnfnaebdmagaaDoor.Vr Go.Proofs.YtpbnfnaebdmagaaDoor.Vs Go.Proofs.YtpbnfnaebdmagaaDoor.Rr Go.Proofs.YtpbnfnaebdmagaaDoor.PT Go.Proofs.YtpbnfnaebdmagaaDoorW.PrintWords Go.Proofs.YtpbnfnaebdmagaaDoorW.PrintLast Go.Proofs.YtpbnfnaebdmagaaDoorW.PrintMore
/-- what the bytes ahead of the tag say: an error, and a value -/
def getP (s : ByteArray) : Int × V := match valR mkV noV 20 s 0 0 with
  | some (e, x, q) => if e = 0 then (if q < (s.size : Int) then (4, noV) else (0, x)) else (e, noV)
  | none => (0, noV)
theorem getP_pack (s : ByteArray) (hs : s.size ≤ 140737488351232 * 4) : pack_Get.f s = some ((getP s).2.f0, (getP s).2.f1, (getP s).2.f2, (getP s).2.f3, (getP s).1) := by
  obtain ⟨r, hr⟩ := valR_total mkV noV s 20 0 0 (by omega) (by omega) (by omega)
  have hg : pack_Get.f s = if r.1 = 0 then (if r.2.2 < (s.size : Int) then some (0, 0, ⟨#[]⟩, [], 4) else some (r.2.1.f0, r.2.1.f1, r.2.1.f2, r.2.1.f3, 0)) else some (0, 0, ⟨#[]⟩, [], r.1) := by
    unfold pack_Get.f
    rw [if_pos hs]
    exact (congrArg (fun t => Option.bind t _) hr).trans rfl
  rw [hg]
  unfold getP
  rw [hr]
  by_cases c : r.1 = 0
  · rw [if_pos c]
    by_cases c2 : r.2.2 < (s.size : Int)
    · rw [if_pos c2]; simp only [c, c2, if_true]
    · rw [if_neg c2]; simp only [c, c2, if_true, if_false]
  · rw [if_neg c]; simp only [c, if_false]
abbrev no6 (e : Int) : Int × Int × Int × Int × ByteArray × Int := (0, 0, 0, 0, ⟨#[]⟩, e)
def body (s : ByteArray) : List V → Int × Int × Int × Int × ByteArray × Int
  | [a, b, c, d] => if a.f0 = 0 ∧ b.f0 = 0 ∧ c.f0 = 0 ∧ d.f0 = 0 ∧ (0 ≤ a.f1 ∧ a.f1 ≤ 2147483647) ∧ (0 ≤ b.f1 ∧ b.f1 ≤ 2147483647) then (a.f1, b.f1, c.f1, d.f1, s.extract (s.size - 32) s.size, 0) else no6 4
  | _ => no6 4
/-- what Parse answers -/
def parseR (s : ByteArray) : Int × Int × Int × Int × ByteArray × Int :=
  if s.size < 32 then no6 3 else if (getP (s.extract 0 (s.size - 32))).1 = 0 then (if (getP (s.extract 0 (s.size - 32))).2.f0 = 2 then body s (getP (s.extract 0 (s.size - 32))).2.f3 else no6 4) else no6 (getP (s.extract 0 (s.size - 32))).1
theorem body4 (s : ByteArray) (a b c d : V) : body s [a, b, c, d] = if a.f0 = 0 ∧ b.f0 = 0 ∧ c.f0 = 0 ∧ d.f0 = 0 ∧ (0 ≤ a.f1 ∧ a.f1 ≤ 2147483647) ∧ (0 ≤ b.f1 ∧ b.f1 ≤ 2147483647) then (a.f1, b.f1, c.f1, d.f1, s.extract (s.size - 32) s.size, 0) else no6 4 := rfl
theorem j0_four (k : Nat) (s : ByteArray) (h : 32 ≤ s.size) (hs : s.size ≤ 140737488351232) (a b c d : V) (x y : Int) (z : ByteArray) :
    token_Parse.j0 (k + 1) s ((s.size : Int) - 32) false x y z [a, b, c, d] = some (body s [a, b, c, d]) := by
  have hn : ((s.size : Int) - 32).toNat = s.size - 32 := by omega
  simp only [token_Parse.j0, Cf.has20.f, Cf.has21.f, Option.bind_some, List.any_cons, List.any_nil, List.take_succ_cons, List.take_zero, Bool.or_false, Cf.lit1, Cf.lit2, List.length_cons, List.length_nil, hn]
  rw [body4, if_neg (by decide)]
  by_cases h1 : a.f0 = 0 ∧ b.f0 = 0 ∧ c.f0 = 0 ∧ d.f0 = 0
  · obtain ⟨ha, hb, hc, hd⟩ := h1
    rw [if_neg (by simp [ha, hb, hc, hd]), if_pos (by omega)]
    by_cases h2 : (0 ≤ a.f1 ∧ a.f1 ≤ 2147483647) ∧ (0 ≤ b.f1 ∧ b.f1 ≤ 2147483647)
    · rw [if_neg (by simp; omega), if_pos (by omega), if_pos (by omega), if_pos (by omega), if_pos (by omega), if_pos (by omega), if_pos (by omega), if_pos ⟨ha, hb, hc, hd, h2.1, h2.2⟩]
      rfl
    · rw [if_pos (by simp; omega), if_neg (fun h => h2 ⟨h.2.2.2.2.1, h.2.2.2.2.2⟩)]
  · rw [if_pos (by simp; omega), if_neg (fun h => h1 ⟨h.1, h.2.1, h.2.2.1, h.2.2.2.1⟩)]
theorem body_other (s : ByteArray) (l : List V) (h : l.length ≠ 4) : body s l = no6 4 := by
  unfold body
  split
  · exact absurd rfl h
  · rfl
theorem four {l : List V} (h : l.length = 4) : ∃ a b c d, l = [a, b, c, d] := by
  match l, h with
  | [a, b, c, d], _ => exact ⟨a, b, c, d, rfl⟩
theorem parse_some (s : ByteArray) (hs : s.size ≤ 140737488351232) (k : Nat) : token_Parse.f (k + 1) s = some (parseR s) := by
  have hw : wrap64 ((s.size : Int) - 32) = (s.size : Int) - 32 := w64 (by omega) (by omega)
  unfold token_Parse.f parseR
  rw [hw]
  by_cases h : s.size < 32
  · rw [if_pos (by omega), if_pos h]
  · have hn : ((s.size : Int) - 32).toNat = s.size - 32 := by omega
    rw [if_neg (by omega), if_pos (by omega), if_pos (by omega), if_neg h, hn, getP_pack _ (by rw [ByteArray.size_extract]; omega), Option.bind_some]
    generalize getP (s.extract 0 (s.size - 32)) = r
    simp only
    by_cases h0 : r.1 = 0
    · rw [if_pos h0, if_pos h0]
      by_cases h2 : r.2.f0 = 2
      · rw [if_pos h2, if_pos h2]
        by_cases h4 : r.2.f3.length = 4
        · obtain ⟨a, b, c, d, e⟩ := four h4
          rw [e]
          exact j0_four k s (by omega) hs a b c d _ _ _
        · have hb : ((r.2.f3.length : Int) != 4) = true := bne_iff_ne.mpr (by omega)
          rw [hb, body_other s _ h4, token_Parse.j0, if_pos rfl]
      · rw [if_neg h2, if_neg h2, token_Parse.j0, if_pos rfl]
    · rw [if_neg h0, if_neg h0]
end Go.Proofs.YtpbnfnaebdmagaaDoor.Tk
namespace Go.Proofs.YtpbnfnaebdmagaaDoor.Sha
set_option linter.unusedVariables false
set_option linter.unusedSimpArgs false
open Go Go.RowKit Go.Proofs.YtpbnfnaebdmagaaDoor.Plain Go.Proofs.YtpbnfnaebdmagaaDoor.PT Go.Proofs.YtpbnfnaebdmagaaDoor.WordsA Go.Proofs.YtpbnfnaebdmagaaDoor.Bld Go.Proofs.YtpbnfnaebdmagaaDoorW.PrintWords Go.Proofs.YtpbnfnaebdmagaaDoorW.PrintLast Go.Proofs.YtpbnfnaebdmagaaDoorW.PrintMore
/-- a block of a text, byte by byte -/
def fb (all : ByteArray) (o : Nat) : Nat → List Nat
  | 0 => List.replicate 64 0
  | i + 1 => (fb all o i).set i (G (bl all) (o + i))
theorem fb_length (all : ByteArray) (o : Nat) : ∀ i, (fb all o i).length = 64
  | 0 => by simp [fb]
  | i + 1 => by rw [fb, List.length_set, fb_length all o i]
theorem fb_at (all : ByteArray) (o : Nat) : ∀ i, i ≤ 64 → ∀ j, j < i → (fb all o i)[j]? = some (G (bl all) (o + j))
  | 0, _, j, h => by omega
  | i + 1, hi, j, h => by
    rw [fb]
    by_cases e : j = i
    · subst e; rw [List.getElem?_set_self (by rw [fb_length]; omega)]
    · rw [List.getElem?_set_ne (by omega)]; exact fb_at all o i (by omega) j (by omega)
theorem fb_all (all : ByteArray) (o : Nat) (h : o + 64 ≤ all.size) : fb all o 64 = bl (all.extract o (o + 64)) := by
  apply List.ext_getElem?
  intro j
  by_cases hj : j < 64
  · rw [fb_at all o 64 (Nat.le_refl _) j hj]
    unfold bl G
    have hl : all.data.toList.length = all.size := Array.length_toList
    rw [ByteArray.data_extract, Array.toList_extract, List.extract_eq_take_drop, List.getElem?_map, List.getElem?_take_of_lt (by omega), List.getElem?_drop, List.getD_eq_getElem?_getD, List.getElem?_map, List.getElem?_eq_getElem (by omega)]
    rfl
  · rw [List.getElem?_eq_none (by rw [fb_length]; omega), List.getElem?_eq_none (by rw [bl_length, ext_size _ _ _ h]; omega)]
theorem bt_bl (s : ByteArray) (i : Nat) (h : i < s.size) : bt s (i : Int) = ((G (bl s) i : Nat) : Int) := by
  unfold bt
  have hl : s.data.toList.length = s.size := Array.length_toList
  rw [dif_pos (by omega)]
  unfold G bl
  rw [List.getD_eq_getElem?_getD, List.getElem?_map, List.getElem?_eq_getElem (by omega)]
  rfl
set_option maxHeartbeats 4000000 in
set_option maxRecDepth 1000000 in
theorem with_walk (ks : List Nat) (s : ByteArray) (w : World) (hk : ks.length = 64) (hkb : bnd ks 4294967296) (hs : s.size ≤ 281474976710656) :
    Calls Tryd.prog 66 #[.agg (arr .u32 ks), .string s] w fun e w' => e = .returned (.string (sumK ks s)) ∧ Below w.heap.size w w' := by
  have HKL := Aside0.mk hk
  have HKB := Aside0.mk hkb
  have HSZ := Aside0.mk hs
  clear hk hkb
  have hsL := (Tryd.underlying114 : Tryd.prog.underlying 114 = _)
  have h64L := (Tryd.underlying119 : Tryd.prog.underlying 119 = _)
  have hkL := (Tryd.underlying90 : Tryd.prog.underlying 90 = _)
  obtain ⟨n, hn⟩ : ∃ n, (s.size + (9 + need s.size)) / 64 = n := ⟨_, rfl⟩
  obtain ⟨all, hall⟩ : ∃ all, s ++ pad s.size = all := ⟨_, rfl⟩
  have hz : all.size = 64 * n := by rw [← hall, ByteArray.size_append, pad_size, ← hn]; unfold need; omega
  have hz2 : all.size ≤ 281474976711656 := by rw [← hall, ByteArray.size_append, pad_size]; unfold need; omega
  have HN : Aside0 (sumK ks s = txt (runB ks all n) 8) := ⟨by rw [sumK, hall, hn]⟩
  have HZ := Aside0.mk hz
  have HAL := Aside0.mk hall
  have h63 : s.size + (pad s.size).size ≤ 9223372036854775807 := by rw [← ByteArray.size_append, hall]; omega
  have HBG := Aside0.mk hz2
  clear hn hz hall hz2
  generalize hp : pad s.size = p at h63 HAL
  have HP := Aside0.mk hp
  clear hp
  have hw1 : IntKind.u64.wrap (s.size : Int) = (s.size : Int) := IntWalk.u64_in _ (by omega)
  have hki : Aside0 ((Tryd.prog.info? 90).map (·.size) = some (arr .u32 ks).size) := ⟨by rw [arr_size, HKL.out]; kernel_rfl⟩
  generalize hK : arr .u32 ks = K at hki
  have HK := Aside0.mk hK
  clear hK
  go_enter Tryd.func66, Tryd.ntmps66
  go_upto_region 1 with fail
  have HK0 := Aside0.mk (blk_new w (.cells K 90))
  have HB := Aside0.mk (below_alloc (Below.refl w.heap.size w) (.cells K 90))
  generalize w.alloc (.cells K 90) = w0 at HK0 HB ⊢
  go_upto_region 2 with (go_at_call 75; (with_reducible refine (rbegin_lit _).mono ?_); rintro e w1 ⟨rfl, hb⟩; have HB1 := Aside0.mk (below_step HB.out hb); have HK1 := Aside0.mk (blk_below HK0.out hb); clear hb HB HK0)
  have HS : Aside0 ((w1.alloc (.cells initV 114)).heap[w1.heap.size]? = some (.cells (arr .u32 (runB ks all 0)) 114 (0, 0))) := ⟨blk_new _ _⟩
  have HB := Aside0.mk (below_alloc HB1.out (.cells initV 114))
  have HKB1 := Aside0.mk (blk_alloc HK1.out (.cells initV 114))
  have HGT : Aside0 (w.heap.size < w1.heap.size) := ⟨blk_lt HK1.out⟩
  clear HB1 HK1
  generalize w1.heap.size = g at HS HGT ⊢
  generalize w1.alloc (.cells initV 114) = w2 at HS HB HKB1 ⊢
  go_upto_region 4 with (go_at_call 76; (with_reducible refine (rpad_walk 10 (by decide) s.size (by have := HSZ.out; omega) _).mono ?_); rintro e w3 ⟨rfl, hb⟩; rw [HP.out]; have HS3 := Aside0.mk (blk_below HS.out hb); have HK3 := Aside0.mk (blk_below HKB1.out hb); have HB3 := Aside0.mk (below_step HB.out hb); clear hb HS HB HKB1)
  rw [HAL.out]
  clear h63
  have hsz : (all.size : Int) = 64 * (n : Int) := by rw [HZ.out]; omega
  have hnb : 64 * n ≤ 281474976711656 := by rw [← HZ.out]; exact HBG.out
  go_wp2
  go_loopw [8] (fun v8 wr => ∃ i : Nat, i ≤ n ∧ v8 = .int .i64 (64 * (i : Int)) ∧ Aside0 (wr.heap[w.heap.size]? = some (.cells K 90 (0, 0))) ∧ Aside0 (wr.heap[g]? = some (.cells (arr .u32 (runB ks all i)) 114 (0, 0))) ∧ Aside0 (Below w.heap.size w wr)) (fun v8 _ => 64 * n - (intOf v8).toNat)
  case atStart => exact ⟨0, by omega, rfl, HK3, HS3, HB3⟩
  case round =>
    clear HS3 HB3 HK3
    obtain ⟨i, hi, rfl, HK3, HS, HB⟩ := hrel
    by_cases hlt : i < n
    · have d0 : (0 : Int) ≤ (i : Int) := by omega
      have d1 : 64 * (i : Int) + 64 ≤ 64 * (n : Int) := by omega
      go_upto_region 8 with fail
      have he : arr .u8 (fb all (64 * i) 0) = #[.int .u8 0, .int .u8 0, .int .u8 0, .int .u8 0, .int .u8 0, .int .u8 0, .int .u8 0, .int .u8 0, .int .u8 0, .int .u8 0, .int .u8 0, .int .u8 0, .int .u8 0, .int .u8 0, .int .u8 0, .int .u8 0, .int .u8 0, .int .u8 0, .int .u8 0, .int .u8 0, .int .u8 0, .int .u8 0, .int .u8 0, .int .u8 0, .int .u8 0, .int .u8 0, .int .u8 0, .int .u8 0, .int .u8 0, .int .u8 0, .int .u8 0, .int .u8 0, .int .u8 0, .int .u8 0, .int .u8 0, .int .u8 0, .int .u8 0, .int .u8 0, .int .u8 0, .int .u8 0, .int .u8 0, .int .u8 0, .int .u8 0, .int .u8 0, .int .u8 0, .int .u8 0, .int .u8 0, .int .u8 0, .int .u8 0, .int .u8 0, .int .u8 0, .int .u8 0, .int .u8 0, .int .u8 0, .int .u8 0, .int .u8 0, .int .u8 0, .int .u8 0, .int .u8 0, .int .u8 0, .int .u8 0, .int .u8 0, .int .u8 0, .int .u8 0] := by rfl
      rw [← he]
      clear he
      have hB9 : Aside0 ((wr.alloc (.cells (arr .u8 (fb all (64 * i) 0)) 119)).heap[wr.heap.size]? = some (.cells (arr .u8 (fb all (64 * i) 0)) 119 (0, 0))) := ⟨blk_new _ _⟩
      have HS9 := Aside0.mk (blk_alloc HS.out (.cells (arr .u8 (fb all (64 * i) 0)) 119))
      have HK9 := Aside0.mk (blk_alloc HK3.out (.cells (arr .u8 (fb all (64 * i) 0)) 119))
      have HB9 := Aside0.mk (below_alloc HB.out (.cells (arr .u8 (fb all (64 * i) 0)) 119))
      have hgq : Aside0 (g < wr.heap.size ∧ w.heap.size < wr.heap.size) := ⟨blk_lt HS.out, blk_lt HK3.out⟩
      clear HS HK3 HB
      generalize wr.heap.size = q at hB9 hgq ⊢
      generalize wr.alloc (.cells (arr .u8 (fb all (64 * i) 0)) 119) = w5 at hB9 HS9 HK9 HB9 ⊢
      obtain ⟨wo, rfl⟩ : ∃ wo : World, wo = wr := ⟨_, rfl⟩
      go_wp2
      go_loopw [10] (fun v10 wr => ∃ j : Nat, j ≤ 64 ∧ v10 = .int .i64 j ∧ Aside0 (wr.heap[q]? = some (.cells (arr .u8 (fb all (64 * i) j)) 119 (0, 0))) ∧ Aside0 (wr.heap[w.heap.size]? = some (.cells K 90 (0, 0))) ∧ Aside0 (wr.heap[g]? = some (.cells (arr .u32 (runB ks all i)) 114 (0, 0))) ∧ Aside0 (Below w.heap.size w wr)) (fun v10 _ => 64 - (intOf v10).toNat)
      case atStart => exact ⟨0, by omega, rfl, hB9, HK9, HS9, HB9⟩
      case round =>
        clear hB9 HK9 HS9 HB9
        obtain ⟨j, hj, rfl, hB9, HK9, HS9, HB9⟩ := hrel
        have hj0 : (0 : Int) ≤ (j : Int) := by omega
        by_cases hlj : j < 64
        · have d3 : (j : Int) < 64 := by omega
          have hix : 64 * i + j < all.size := by rw [HZ.out]; omega
          have hbt := bt_bl all (64 * i + j) hix
          have hnx : Aside0 (fb all (64 * i) (j + 1) = (fb all (64 * i) j).set j (G (bl all) (64 * i + j))) := ⟨rfl⟩
          have hxb := G_lt (bl_bnd all) (by decide) (64 * i + j)
          have hL := fb_length all (64 * i) j
          have ix : ∀ w : World, (Instr.index 9 (.string all) (.int .i64 (64 * (i : Int) + (j : Int)))).run Tryd.prog w = .ok (.int .u8 (G (bl all) (64 * i + j) : Nat)) w := fun w => by
            have h := Go.run_index_string (P := Tryd.prog) (w := w) 9 all .i64 (64 * (i : Int) + (j : Int)) Tryd.underlying9
            have hc : (0 : Int) ≤ 64 * (i : Int) + (j : Int) ∧ 64 * (i : Int) + (j : Int) < (all.size : Int) := by omega
            rw [h, dif_pos hc]
            have e : (64 * (i : Int) + (j : Int)).toNat = 64 * i + j := by omega
            simp only [e]
            have hl : all.data.toList.length = all.size := Array.length_toList
            unfold G bl
            rw [List.getD_eq_getElem?_getD, List.getElem?_map, List.getElem?_eq_getElem (by omega)]
            rfl
          generalize G (bl all) (64 * i + j) = x at hnx hxb ix
          have hfz : wr.frozen? ⟨q, j, none⟩ = false := blk_frozen hB9.out j
          have hcl : wr.cell? ⟨q, j, none⟩ = some (.int .u8 (G (fb all (64 * i) j) j : Nat)) := (blk_cell hB9.out j).trans (arr_at _ _ _ (by omega))
          have hB8 : Aside0 ((wr.setCell ⟨q, j, none⟩ (.int .u8 (x : Int))).heap[q]? = some (.cells (arr .u8 (fb all (64 * i) (j + 1))) 119 (0, 0))) := ⟨by rw [hnx.out]; exact blk_put hB9.out j _ (arr_set _ _ _ _)⟩
          have HK8 := Aside0.mk (blk_far HK9.out (p := ⟨q, j, none⟩) (by show _ ≠ q; have := hgq.out; omega) (.int .u8 (x : Int)))
          have HS8 := Aside0.mk (blk_far HS9.out (p := ⟨q, j, none⟩) (by show _ ≠ q; have := hgq.out; omega) (.int .u8 (x : Int)))
          have HB8 := Aside0.mk (HB9.out.setCell (p := ⟨q, j, none⟩) (by show w.heap.size ≤ q; have := hgq.out; omega) (.int .u8 (x : Int)))
          clear hbt hix hL
          go_wp2
          go_roundw
          case rel => first | exact ⟨j + 1, by omega, by go_num, hB8, HK8, HS8, HB8⟩ | ((repeat apply Exists.intro); exact ⟨⟨j + 1, by omega, by go_num, hB8, HK8, HS8, HB8⟩, rfl⟩)
          case measure => simp [intOf]; omega
        · obtain rfl : j = 64 := by omega
          clear hj hj0 hlj
          have hbl := Aside0.mk (fb_all all (64 * i) (by rw [HZ.out]; omega))
          have hrb : Aside0 (runB ks all (i + 1) = block ks (runB ks all i) (bl (all.extract (64 * i) (64 * i + 64)))) := ⟨rfl⟩
          have hrok := runB_ok ks all i
          have hrok1 := (runB_ok ks all (i + 1))
          have hCs : (bl (all.extract (64 * i) (64 * i + 64))).length = 64 := by rw [bl_length, ext_size _ _ _ (by rw [HZ.out]; omega)]; omega
          have hCb := bl_bnd (all.extract (64 * i) (64 * i + 64))
          rw [hbl.out] at hB9
          generalize hC : bl (all.extract (64 * i) (64 * i + 64)) = C at hB9 hrb hCs hCb
          clear hC hbl
          obtain ⟨S1, hS1⟩ : ∃ S1, runB ks all (i + 1) = S1 := ⟨_, rfl⟩
          rw [hS1] at hrb hrok1
          have hS1 := Aside0.mk hS1
          generalize runB ks all i = S0 at HS9 hrb hrok
          obtain ⟨f0, f1, f2, f3, f4, f5, f6, f7, hf⟩ := eight hrok1.1
          have hi8 : Aside0 ((Tryd.prog.info? 114).map (·.size) = some (arr .u32 S0).size) := ⟨by rw [arr_size, hrok.1]; kernel_rfl⟩
          have hic : Aside0 ((Tryd.prog.info? 119).map (·.size) = some (arr .u8 C).size) := ⟨by rw [arr_size, hCs]; kernel_rfl⟩
          have hin : Aside0 ((Tryd.prog.info? 114).map (·.size) = some (arr .u32 S1).size) := ⟨by rw [arr_size, hrok1.1]; kernel_rfl⟩
          have hcall := fun W => Aside0.mk (rblock_walk ks S0 C W HKL.out HKB.out hrok.1 hCs hrok.2 hCb)
          rw [HK.out] at hcall
          rw [← hrb.out] at hcall
          clear hCs hCb hrb
          have hlen0 := Aside0.mk hrok.1
          have hlen1 := Aside0.mk hrok1.1
          clear hrok hrok1 hf
          go_upto_region 6 with (first
            | (refine wpList_load_row rfl 90 (.tmp 2) rfl w.heap.size (by rfl) 90 _ (0, 0) _ HK9.out hkL rfl hki.out ?_)
            | (refine wpList_load_row rfl 114 (.tmp 5) rfl g (by rfl) 114 _ (0, 0) _ HS9.out hsL rfl hi8.out ?_)
            | (refine wpList_load_row rfl 119 (.tmp 9) rfl q (by rfl) 119 _ (0, 0) _ hB9.out h64L rfl hic.out ?_)
            | (go_at_call 77; (with_reducible refine ((hcall _).out).mono ?_); rintro e w9 ⟨rfl, hb⟩; have HS7 := Aside0.mk (blk_below HS9.out hb); have HK7 := Aside0.mk (blk_below HK9.out hb); have HB7 := Aside0.mk (below_step HB9.out hb); have hth : Aside0 (w9.there g 0 (arr .u32 S1).size) := ⟨fun j hj => ⟨by rw [Nat.zero_add, blk_cell HS7.out j, arr_at .u32 _ j (by rw [hlen0.out]; rw [arr_size, hlen1.out] at hj; exact hj)]; rfl, blk_frozen HS7.out _⟩⟩; clear hb)
            | (refine wpList_store_mid rfl 114 (.tmp 5) (.tmp 40) rfl g 0 (arr .u32 S1) (by rfl) (by rfl) hth.out hin.out (arr_one _ _) ?_))
          have HS6 := Aside0.mk (arr_row .u32 S0 S1 HS7.out (by rw [hlen0.out, hlen1.out]))
          have HK6 : Aside0 ((w9.setCells g 0 (arr .u32 S1).toList).heap[w.heap.size]? = some (.cells K 90 (0, 0))) := ⟨by rw [heap_setCells_far _ _ (by have := HGT.out; omega)]; exact HK7.out⟩
          have HB6 := Aside0.mk (below_setCells (Nat.le_of_lt HGT.out) (arr .u32 S1).toList 0 _ HB7.out)
          rw [← hS1.out] at HS6 HK6 HB6 ⊢
          clear hcall hth HS7 HK7 HB7
          generalize w9.setCells g 0 (arr .u32 (runB ks all (i + 1))).toList = w6 at HS6 HK6 HB6 ⊢
          go_wp2
          go_roundw
          case rel => first | exact ⟨i + 1, by omega, by go_num, HK6, HS6, HB6⟩ | ((repeat apply Exists.intro); exact ⟨⟨i + 1, by omega, by go_num, HK6, HS6, HB6⟩, rfl⟩)
          case measure => simp [intOf]; omega
    · obtain rfl : i = n := by omega
      have hi8 : Aside0 ((Tryd.prog.info? 114).map (·.size) = some (arr .u32 (runB ks all i)).size) := ⟨by rw [arr_size, (runB_ok ks all i).1]; kernel_rfl⟩
      have d0 : (0 : Int) ≤ (i : Int) := by omega
      go_wp2_with (first
        | (refine wpList_load_row rfl 114 (.tmp 5) rfl g (by rfl) 114 _ (0, 0) _ HS.out hsL rfl hi8.out ?_)
        | (go_at_call 78; (with_reducible refine (rtext_walk 10 (by decide) (runB ks all i) _ (runB_ok ks all i).1 (runB_ok ks all i).2).mono ?_); rintro e w4 ⟨rfl, hb⟩; have HB4 := Aside0.mk (below_step HB.out hb); clear hb))
      go_ret
      exact ⟨by rw [HN.out]; rfl, HB4.out⟩
abbrev z64 : Array Value := #[.int .u32 0, .int .u32 0, .int .u32 0, .int .u32 0, .int .u32 0, .int .u32 0, .int .u32 0, .int .u32 0, .int .u32 0, .int .u32 0, .int .u32 0, .int .u32 0, .int .u32 0, .int .u32 0, .int .u32 0, .int .u32 0, .int .u32 0, .int .u32 0, .int .u32 0, .int .u32 0, .int .u32 0, .int .u32 0, .int .u32 0, .int .u32 0, .int .u32 0, .int .u32 0, .int .u32 0, .int .u32 0, .int .u32 0, .int .u32 0, .int .u32 0, .int .u32 0, .int .u32 0, .int .u32 0, .int .u32 0, .int .u32 0, .int .u32 0, .int .u32 0, .int .u32 0, .int .u32 0, .int .u32 0, .int .u32 0, .int .u32 0, .int .u32 0, .int .u32 0, .int .u32 0, .int .u32 0, .int .u32 0, .int .u32 0, .int .u32 0, .int .u32 0, .int .u32 0, .int .u32 0, .int .u32 0, .int .u32 0, .int .u32 0, .int .u32 0, .int .u32 0, .int .u32 0, .int .u32 0, .int .u32 0, .int .u32 0, .int .u32 0, .int .u32 0]
theorem z64_v : arr .u32 (List.replicate 64 0) = z64 := rfl
theorem z64_blk (w : World) : (w.alloc (.cells z64 90)).heap[w.heap.size]? = some (.cells (arr .u32 (List.replicate 64 0)) 90 (0, 0)) := by rw [z64_v]; exact blk_new w _
theorem z64_there (w : World) (n : Nat) (hn : n = 64) : (w.alloc (.cells z64 90)).there w.heap.size 0 n := fun j hj =>
  ⟨by rw [Nat.zero_add, blk_cell (z64_blk w) j, arr_at .u32 _ j (by simp; omega)]; rfl, blk_frozen (z64_blk w) _⟩
theorem roots_arr (w : World) : Calls Tryd.prog 45 #[] w fun e w' => e = .returned (.agg (arr .u32 roots)) ∧ Below w.heap.size w w' := by rw [roots_v]; exact roots_walk w
end Go.Proofs.YtpbnfnaebdmagaaDoor.Sha
namespace Go.Proofs.YtpbnfnaebdmagaaDoor.Sha
set_option linter.unusedVariables false
set_option linter.unusedSimpArgs false
open Go Go.RowKit Go.Proofs.YtpbnfnaebdmagaaDoor.Plain Go.Proofs.YtpbnfnaebdmagaaDoorW.PrintWords
def abcB : List UInt8 := [186, 120, 22, 191, 143, 1, 207, 234, 65, 65, 64, 222, 93, 174, 34, 35, 176, 3, 97, 163, 150, 23, 122, 156, 180, 16, 255, 97, 242, 0, 21, 173]
set_option maxRecDepth 100000 in
theorem abc_sum : (sumK roots ⟨#[97, 98, 99]⟩).data.toList = abcB := by decide +kernel
end Go.Proofs.YtpbnfnaebdmagaaDoor.Sha
namespace Go.Proofs.YtpbnfnaebdmagaaDoor.Sha
set_option linter.unusedVariables false
set_option linter.unusedSimpArgs false
open Go Go.RowKit Go.Proofs.YtpbnfnaebdmagaaDoor.Plain Go.Proofs.YtpbnfnaebdmagaaDoor.PT Go.Proofs.YtpbnfnaebdmagaaDoorW.PrintWords Go.Proofs.YtpbnfnaebdmagaaDoorW.PrintLast Go.Proofs.YtpbnfnaebdmagaaDoorW.PrintMore
attribute [local go_sem] max2_int min2_int max_two min_two max_three min_three max_four min_four
/-- the rounds' table lies in memory -/
structure Tab (w : World) : Prop where
  out : w.rangeAt 0 0 (roots.map fun n : Nat => Value.int .u32 (n : Int))
theorem Tab.below {w w' : World} {B : Nat} (h : Tab w) (hB : w.heap.size ≤ B) (hb : Below B w w') : Tab w' := ⟨fun j v hj => (hb.cell (Nat.lt_of_lt_of_le (World.block_lt_of_cell? w _ (h.out j v hj)) hB)).trans (h.out j v hj)⟩
theorem Tab.step {w w' : World} (h : Tab w) (hb : Below w.heap.size w w') : Tab w' := h.below (Nat.le_refl _) hb
theorem sum_tab (s : ByteArray) (w : World) (h : Tab w) (hs : s.size ≤ 281474976710656) :
    Calls Tryd.prog 40 #[.string s] w fun e w' => e = .returned (.string (sumK roots s)) ∧ Below w.heap.size w w' := sum_walk roots s w roots_length roots_bnd h.out hs
theorem cut_list (s : ByteArray) (l : List UInt8) (h : s.data.toList = l) (a b : Nat) (hb : b ≤ l.length) : (s.extract a b).toList = (l.drop a).take (b - a) := by
  rw [toList_data, ByteArray.data_extract, Array.toList_extract, List.extract_eq_take_drop, h]
end Go.Proofs.YtpbnfnaebdmagaaDoor.Sha
namespace Go.Proofs.YtpbnfnaebdmagaaDoor.Sha
set_option linter.unusedVariables false
set_option linter.unusedSimpArgs false
open Go Go.RowKit Go.Proofs.YtpbnfnaebdmagaaDoor.Plain Go.Proofs.YtpbnfnaebdmagaaDoor.PT Go.Proofs.YtpbnfnaebdmagaaDoorW.PrintWords Go.Proofs.YtpbnfnaebdmagaaDoorW.PrintLast Go.Proofs.YtpbnfnaebdmagaaDoorW.PrintMore
/-- the key that is laid -/
def keyB (key : ByteArray) : ByteArray := if 64 < key.size then sumK roots key else key
theorem keyB_size (key : ByteArray) : (keyB key).size ≤ 64 := by
  unfold keyB
  split
  · rw [sumK_size]; omega
  · omega
def keyAt (key : ByteArray) (j : Nat) : Int := if j < key.size then bt key j else 0
def laidL (key : ByteArray) (x : Int) (i : Nat) : List Int := (List.range i).map fun j => bits .xor .u8 (keyAt key j) x
theorem laidL_length (key : ByteArray) (x : Int) (i : Nat) : (laidL key x i).length = i := by simp [laidL]
theorem laidL_succ (key : ByteArray) (x : Int) (i : Nat) : laidL key x (i + 1) = laidL key x i ++ [bits .xor .u8 (keyAt key i) x] := by
  unfold laidL
  rw [List.range_succ, List.map_append]; rfl
/-- a key laid: what stands ahead of the text -/
def laidK (key : ByteArray) (x : Int) : ByteArray := strOfNums (laidL (keyB key) x 64)
theorem size_nums (l : List Int) : (strOfNums l).size = l.length := size_strOfNums l
theorem laidK_size (key : ByteArray) (x : Int) : (laidK key x).size = 64 := by unfold laidK; rw [size_strOfNums, laidL_length]
def padded (key : ByteArray) : ByteArray := key ++ zeros (64 - key.size)
theorem padded_size (key : ByteArray) (h : key.size ≤ 64) : (padded key).size = 64 := by
  unfold padded
  rw [ByteArray.size_append, zeros_size]; omega
theorem padded_at (key : ByteArray) (h : key.size ≤ 64) (j : Nat) (hj : j < 64) : (bytesOf (padded key)).getD j 0 = keyAt key j := by
  have hl : key.data.toList.length = key.size := Array.length_toList
  have hp : (bytesOf (padded key)).length = 64 := by rw [bytesOf_length, padded_size key h]
  unfold keyAt bytesOf padded
  rw [ByteArray.data_append, Array.toList_append, List.map_append, List.getD_eq_getElem?_getD]
  by_cases c : j < key.size
  · rw [if_pos c, List.getElem?_append_left (by simp; omega), List.getElem?_map, List.getElem?_eq_getElem (by omega)]
    unfold bt
    rw [dif_pos (by omega)]
    rfl
  · rw [if_neg c, List.getElem?_append_right (by simp; omega), List.getElem?_map]
    have e : (zeros (64 - key.size)).data.toList = List.replicate (64 - key.size) 0 := rfl
    rw [e, List.getElem?_replicate_of_lt (by simp; omega)]
    rfl
theorem reads_put {W : World} {g n : Nat} {xs : List Int} (h : ReadsInt W .u8 (some ⟨g, 0, none⟩) n xs) (i : Nat) (hi : i < n) (v : Int) {old : Value} (hc : W.cell? ⟨g, i, none⟩ = some old) : ReadsInt (W.setCell ⟨g, i, none⟩ (.int .u8 v)) .u8 (some ⟨g, 0, none⟩) n (xs.set i v) := by
  refine ⟨by rw [List.length_set]; exact h.1, h.2.1, fun hp => ?_⟩
  obtain ⟨ad, e, hcell⟩ := h.2.2 hp
  obtain rfl := Option.some.inj e
  have hn := h.1
  refine ⟨_, rfl, fun j hj => ?_⟩
  have hc2 := hcell j hj
  rw [add_plain] at hc2 ⊢
  by_cases c : j = i
  · subst c
    rw [World.cell?_setCell_same _ _ _ hc]
    simp [List.getD_eq_getElem?_getD, List.getElem?_set, hn, hi]
  · rw [World.cell?_setCell_other _ _ _ _ (show (⟨g, i, none⟩ : Addr) ≠ ⟨g, j, none⟩ from fun e => c (by injection e with _ e2; exact e2.symm)), hc2]
    simp [List.getD_eq_getElem?_getD, List.getElem?_set, Ne.symm c]
theorem laid_step (key : ByteArray) (x : Int) (i : Nat) (l : List Int) (hl : l.length = 64) (hi : i < 64) :
    (laidL key x i ++ l.drop i).set i (bits .xor .u8 (keyAt key i) x) = laidL key x (i + 1) ++ l.drop (i + 1) := by
  rw [laidL_succ, List.append_assoc, List.set_append_right _ _ (by rw [laidL_length]; exact Nat.le_refl _), laidL_length, Nat.sub_self, List.drop_eq_getElem_cons (by omega)]
  rfl
theorem laid_at (key : ByteArray) (x : Int) (i : Nat) (l : List Int) (hi : i < l.length) : (laidL key x i ++ l.drop i).getD i 0 = l.getD i 0 := by
  rw [List.getD_eq_getElem?_getD, List.getElem?_append_right (by rw [laidL_length]; exact Nat.le_refl _), laidL_length, Nat.sub_self, List.getElem?_drop, Nat.add_zero, ← List.getD_eq_getElem?_getD]
theorem repeat0 (c : Nat) (w : World) (hc : c ≤ 64) :
    Calls Tryd.prog 70 #[.string ⟨#[0]⟩, .int .i64 (c : Int)] w fun e w' => e = .returned (.string (zeros c)) ∧ Below w.heap.size w w' := by
  have h := Tryd.strings_Repeat ⟨#[0]⟩ c w (by omega) (by show 1 * c ≤ _; omega)
  rw [repeat_zeros] at h
  exact h
set_option maxHeartbeats 4000000 in
set_option maxRecDepth 100000 in
theorem laid_walk (key : ByteArray) (x : Int) (w : World) (HT : Tab w) (hs : key.size ≤ 281474976710656) (hx0 : 0 ≤ x) (hx1 : x ≤ 255) :
    Calls Tryd.prog 63 #[.string key, .int .u8 x] w fun e w' => e = .returned (.string (laidK key x)) ∧ Below w.heap.size w w' := by
  have HT := Aside0.mk HT
  have HS := Aside0.mk hs
  have hkz := keyB_size key
  have HQ : Aside0 (laidK key x = strOfNums (laidL (keyB key) x 64)) := ⟨rfl⟩
  have hcase : (64 < key.size ∧ keyB key = sumK roots key) ∨ (¬ 64 < key.size ∧ keyB key = key) := by
    unfold keyB
    split
    · exact Or.inl ⟨by assumption, rfl⟩
    · exact Or.inr ⟨by assumption, rfl⟩
  have hQ := HQ.out
  generalize laidK key x = R at hQ ⊢
  clear HQ
  go_enter Tryd.func63, Tryd.ntmps63
  rcases hcase with ⟨h64, hk⟩ | ⟨h64, hk⟩
  · have d1 : decide (64 < (key.size : Int)) = true := by simp; omega
    have hsum := fun w h => Aside0.mk (sum_tab key w h HS.out)
    rw [← hk] at hsum
    clear hk
    generalize keyB key = K at hkz hQ hsum
    have HQ := Aside0.mk hQ
    have hkz := hkz
    clear hQ
    go_upto_region 3 with (go_at_call 40; (with_reducible refine ((hsum _ HT.out).out).mono ?_); rintro e w1 ⟨rfl, hb⟩; have HB := Aside0.mk hb; clear hb)
    clear hsum d1 h64
    have HT1 := Aside0.mk (HT.out.step HB.out)
    have hK0 : (K.size : Int) ≤ 64 := by omega
    have hsub : (64 : Int) - (K.size : Int) = ((64 - K.size : Nat) : Int) := by omega
    have hrep := fun w => Aside0.mk (repeat0 (64 - K.size) w (by omega))
    have hpz := padded_size K hkz
    have hpa := padded_at K hkz
    have hzz := zeros_size (64 - K.size)
    have c5 : (K.size + (zeros (64 - K.size)).size ≤ 9223372036854775807) = True := eq_true (by rw [hzz]; omega)
    have c6 : (9223372036854775807 < K.size + (zeros (64 - K.size)).size) = False := eq_false (by rw [hzz]; omega)
    have hpd : Aside0 (K ++ zeros (64 - K.size) = padded K) := ⟨rfl⟩
    generalize zeros (64 - K.size) = Z at hrep c5 c6 hpd
    generalize 64 - K.size = zc at hsub hrep
    clear hzz hkz hK0
    generalize hP : padded K = P at hpz hpa hpd
    clear hP
    have HPZ := Aside0.mk hpz
    have HPA := Aside0.mk hpa
    clear hpz hpa
    have kb : ∀ W, (convert 9 45 (.string (K ++ Z))).run Tryd.prog W = .ok (.slice (some ⟨W.heap.size, 0, none⟩) P.size (grownCap W P.size 0 5)) (Lib.bytesWorld W 5 P) := fun W => by
      rw [hpd.out]; exact print_bytes (P := Tryd.prog) 9 45 5 Tryd.underlying9 Tryd.underlying45 Tryd.underlying5 P W
    go_upto_region 4 with (go_at_call 70; (with_reducible refine ((hrep _).out).mono ?_); rintro e w2 ⟨rfl, hb⟩; have HB2 := Aside0.mk (below_step HB.out hb); clear hb)
    have hsz := bytes_reads w2 5 P (by rw [HPZ.out]; decide)
    have hRD : Aside0 (ReadsInt (Lib.bytesWorld w2 5 P) .u8 (some ⟨w2.heap.size, 0, none⟩) 64 (laidL K x 0 ++ (bytesOf P).drop 0)) := ⟨by rw [HPZ.out] at hsz; exact hsz⟩
    have hFZ : Aside0 (∀ j : Nat, j < 64 → (Lib.bytesWorld w2 5 P).frozen? ⟨w2.heap.size, j, none⟩ = false) := ⟨fun j hj => by
      have hs : j < (Lib.bytesCells w2 5 P).size := by simp [Lib.bytesCells]; have := HPZ.out; omega
      simp [World.frozen?, Lib.bytesWorld_at_new]
      omega⟩
    have HB3 := Aside0.mk (bytes_below HB2.out (below_size HB2.out) 5 P)
    have hge : Aside0 (w.heap.size ≤ w2.heap.size) := ⟨below_size HB2.out⟩
    have hPl : Aside0 ((bytesOf P).length = 64) := ⟨by rw [bytesOf_length, HPZ.out]⟩
    have hz64 : (P.size : Int) = 64 := by rw [HPZ.out]; rfl
    have HZ64 := Aside0.mk hz64
    clear hsz kb hrep hsub c5 c6 HB2 hpd hz64
    generalize grownCap w2 P.size 0 5 = cq
    have hps := HPZ.out
    rw [hps]
    clear hps
    generalize w2.heap.size = q at hRD hFZ hge ⊢
    generalize Lib.bytesWorld w2 5 P = w3 at hRD hFZ HB3 ⊢
    generalize bytesOf P = L at hRD hPl HPA
    go_wp2
    go_loopw [21] (fun v21 wr => ∃ i : Nat, i ≤ 64 ∧ v21 = .int .i64 i ∧ Aside0 (ReadsInt wr .u8 (some ⟨q, 0, none⟩) 64 (laidL K x i ++ L.drop i)) ∧ Aside0 (∀ j : Nat, j < 64 → wr.frozen? ⟨q, j, none⟩ = false) ∧ Aside0 (Below w.heap.size w wr)) (fun v21 _ => 64 - (intOf v21).toNat)
    case atStart => exact ⟨0, by omega, rfl, hRD, hFZ, HB3⟩
    case round =>
      clear hRD hFZ HB3
      obtain ⟨i, hi, rfl, hRD, hFZ, HB3⟩ := hrel
      have hi0 : (0 : Int) ≤ (i : Int) := by omega
      by_cases hlt : i < 64
      · have d1 : (i : Int) < 64 := by omega
        have hcl : wr.cell? ⟨q, i, none⟩ = some (.int .u8 (keyAt K i)) := by
          obtain ⟨ad, e1, hc1⟩ := hRD.out.2.2 (by decide)
          obtain rfl := Option.some.inj e1
          have h := hc1 i hlt
          rw [add_plain, laid_at K x i L (by rw [hPl.out]; exact hlt), HPA.out i hlt] at h
          exact h
        have hfz := hFZ.out i hlt
        have hRN := Aside0.mk (reads_put hRD.out i hlt (bits .xor .u8 (keyAt K i) x) hcl)
        rw [laid_step K x i L hPl.out hlt] at hRN
        have hFN : Aside0 (∀ j : Nat, j < 64 → (wr.setCell ⟨q, i, none⟩ (.int .u8 (bits .xor .u8 (keyAt K i) x))).frozen? ⟨q, j, none⟩ = false) := ⟨fun j hj => by
          rw [World.frozen?_setCell]; exact hFZ.out j hj⟩
        have HBN := Aside0.mk (HB3.out.setCell (p := ⟨q, i, none⟩) hge.out (.int .u8 (bits .xor .u8 (keyAt K i) x)))
        generalize keyAt K i = kx at hcl hRN hFN HBN
        go_wp2
        go_roundw
        case rel => first | exact ⟨i + 1, by omega, by go_num, hRN, hFN, HBN⟩ | ((repeat apply Exists.intro); exact ⟨⟨i + 1, by omega, by go_num, hRN, hFN, HBN⟩, rfl⟩)
        case measure => simp [intOf]; omega
      · obtain rfl : i = 64 := by omega
        have hRS : ReadsInt wr .u8 (some ⟨q, 0, none⟩) 64 (laidL K x 64) := by
          have h := hRD.out
          rw [List.drop_of_length_le (by rw [hPl.out]; exact Nat.le_refl _), List.append_nil] at h
          exact h
        have ks := string_of_reads (P := Tryd.prog) Tryd.underlying45 Tryd.underlying5 Tryd.underlying9 hRS (c := cq)
        clear hRS
        rw [← HQ.out] at ks
        go_wp2
        go_ret
        exact ⟨rfl, HB3.out⟩
  · have d1 : decide (64 < (key.size : Int)) = false := by simp; omega
    rw [hk] at hkz hQ
    have HQ := Aside0.mk hQ
    clear hQ hk
    have HB := Aside0.mk (Below.refl w.heap.size w)
    go_upto_region 3 with fail
    clear d1 h64
    have HT1 := HT
    have hK0 : (key.size : Int) ≤ 64 := by omega
    have hsub : (64 : Int) - (key.size : Int) = ((64 - key.size : Nat) : Int) := by omega
    have hrep := fun w => Aside0.mk (repeat0 (64 - key.size) w (by omega))
    have hpz := padded_size key hkz
    have hpa := padded_at key hkz
    have hzz := zeros_size (64 - key.size)
    have c5 : (key.size + (zeros (64 - key.size)).size ≤ 9223372036854775807) = True := eq_true (by rw [hzz]; omega)
    have c6 : (9223372036854775807 < key.size + (zeros (64 - key.size)).size) = False := eq_false (by rw [hzz]; omega)
    have hpd : Aside0 (key ++ zeros (64 - key.size) = padded key) := ⟨rfl⟩
    generalize zeros (64 - key.size) = Z at hrep c5 c6 hpd
    generalize 64 - key.size = zc at hsub hrep
    clear hzz hkz hK0
    generalize hP : padded key = P at hpz hpa hpd
    clear hP
    have HPZ := Aside0.mk hpz
    have HPA := Aside0.mk hpa
    clear hpz hpa
    have kb : ∀ W, (convert 9 45 (.string (key ++ Z))).run Tryd.prog W = .ok (.slice (some ⟨W.heap.size, 0, none⟩) P.size (grownCap W P.size 0 5)) (Lib.bytesWorld W 5 P) := fun W => by
      rw [hpd.out]; exact print_bytes (P := Tryd.prog) 9 45 5 Tryd.underlying9 Tryd.underlying45 Tryd.underlying5 P W
    go_upto_region 4 with (go_at_call 70; (with_reducible refine ((hrep _).out).mono ?_); rintro e w2 ⟨rfl, hb⟩; have HB2 := Aside0.mk (below_step HB.out hb); clear hb)
    have hsz := bytes_reads w2 5 P (by rw [HPZ.out]; decide)
    have hRD : Aside0 (ReadsInt (Lib.bytesWorld w2 5 P) .u8 (some ⟨w2.heap.size, 0, none⟩) 64 (laidL key x 0 ++ (bytesOf P).drop 0)) := ⟨by rw [HPZ.out] at hsz; exact hsz⟩
    have hFZ : Aside0 (∀ j : Nat, j < 64 → (Lib.bytesWorld w2 5 P).frozen? ⟨w2.heap.size, j, none⟩ = false) := ⟨fun j hj => by
      have hs : j < (Lib.bytesCells w2 5 P).size := by simp [Lib.bytesCells]; have := HPZ.out; omega
      simp [World.frozen?, Lib.bytesWorld_at_new]
      omega⟩
    have HB3 := Aside0.mk (bytes_below HB2.out (below_size HB2.out) 5 P)
    have hge : Aside0 (w.heap.size ≤ w2.heap.size) := ⟨below_size HB2.out⟩
    have hPl : Aside0 ((bytesOf P).length = 64) := ⟨by rw [bytesOf_length, HPZ.out]⟩
    have hz64 : (P.size : Int) = 64 := by rw [HPZ.out]; rfl
    have HZ64 := Aside0.mk hz64
    clear hsz kb hrep hsub c5 c6 HB2 hpd hz64
    generalize grownCap w2 P.size 0 5 = cq
    have hps := HPZ.out
    rw [hps]
    clear hps
    generalize w2.heap.size = q at hRD hFZ hge ⊢
    generalize Lib.bytesWorld w2 5 P = w3 at hRD hFZ HB3 ⊢
    generalize bytesOf P = L at hRD hPl HPA
    go_wp2
    go_loopw [21] (fun v21 wr => ∃ i : Nat, i ≤ 64 ∧ v21 = .int .i64 i ∧ Aside0 (ReadsInt wr .u8 (some ⟨q, 0, none⟩) 64 (laidL key x i ++ L.drop i)) ∧ Aside0 (∀ j : Nat, j < 64 → wr.frozen? ⟨q, j, none⟩ = false) ∧ Aside0 (Below w.heap.size w wr)) (fun v21 _ => 64 - (intOf v21).toNat)
    case atStart => exact ⟨0, by omega, rfl, hRD, hFZ, HB3⟩
    case round =>
      clear hRD hFZ HB3
      obtain ⟨i, hi, rfl, hRD, hFZ, HB3⟩ := hrel
      have hi0 : (0 : Int) ≤ (i : Int) := by omega
      by_cases hlt : i < 64
      · have d1 : (i : Int) < 64 := by omega
        have hcl : wr.cell? ⟨q, i, none⟩ = some (.int .u8 (keyAt key i)) := by
          obtain ⟨ad, e1, hc1⟩ := hRD.out.2.2 (by decide)
          obtain rfl := Option.some.inj e1
          have h := hc1 i hlt
          rw [add_plain, laid_at key x i L (by rw [hPl.out]; exact hlt), HPA.out i hlt] at h
          exact h
        have hfz := hFZ.out i hlt
        have hRN := Aside0.mk (reads_put hRD.out i hlt (bits .xor .u8 (keyAt key i) x) hcl)
        rw [laid_step key x i L hPl.out hlt] at hRN
        have hFN : Aside0 (∀ j : Nat, j < 64 → (wr.setCell ⟨q, i, none⟩ (.int .u8 (bits .xor .u8 (keyAt key i) x))).frozen? ⟨q, j, none⟩ = false) := ⟨fun j hj => by
          rw [World.frozen?_setCell]; exact hFZ.out j hj⟩
        have HBN := Aside0.mk (HB3.out.setCell (p := ⟨q, i, none⟩) hge.out (.int .u8 (bits .xor .u8 (keyAt key i) x)))
        generalize keyAt key i = kx at hcl hRN hFN HBN
        go_wp2
        go_roundw
        case rel => first | exact ⟨i + 1, by omega, by go_num, hRN, hFN, HBN⟩ | ((repeat apply Exists.intro); exact ⟨⟨i + 1, by omega, by go_num, hRN, hFN, HBN⟩, rfl⟩)
        case measure => simp [intOf]; omega
      · obtain rfl : i = 64 := by omega
        have hRS : ReadsInt wr .u8 (some ⟨q, 0, none⟩) 64 (laidL key x 64) := by
          have h := hRD.out
          rw [List.drop_of_length_le (by rw [hPl.out]; exact Nat.le_refl _), List.append_nil] at h
          exact h
        have ks := string_of_reads (P := Tryd.prog) Tryd.underlying45 Tryd.underlying5 Tryd.underlying9 hRS (c := cq)
        clear hRS
        rw [← HQ.out] at ks
        go_wp2
        go_ret
        exact ⟨rfl, HB3.out⟩
def innerK (key : ByteArray) : ByteArray := laidK key 54
def outerK (key : ByteArray) : ByteArray := laidK key 92
/-- the tag of a text by a key -/
def tagK (key text : ByteArray) : ByteArray := sumK roots (outerK key ++ sumK roots (innerK key ++ text))
theorem tagK_size (key text : ByteArray) : (tagK key text).size = 32 := sumK_size _ _
set_option maxHeartbeats 4000000 in
theorem inner_walk (key : ByteArray) (w : World) (HT : Tab w) (hs : key.size ≤ 281474976710656) :
    Calls Tryd.prog 42 #[.string key] w fun e w' => e = .returned (.string (innerK key)) ∧ Below w.heap.size w w' := by
  have hL := fun w h => Aside0.mk (laid_walk key 54 w h hs (by decide) (by decide))
  have HT := Aside0.mk HT
  go_enter Tryd.func42, Tryd.ntmps42
  go_wp2_with (go_at_call 63; (with_reducible refine ((hL _ HT.out).out).mono ?_); rintro e w1 ⟨rfl, hb⟩; have HB := Aside0.mk hb; clear hb)
  go_ret
  exact ⟨rfl, HB.out⟩
set_option maxHeartbeats 4000000 in
theorem outer_walk (key : ByteArray) (w : World) (HT : Tab w) (hs : key.size ≤ 281474976710656) :
    Calls Tryd.prog 41 #[.string key] w fun e w' => e = .returned (.string (outerK key)) ∧ Below w.heap.size w w' := by
  have hL := fun w h => Aside0.mk (laid_walk key 92 w h hs (by decide) (by decide))
  have HT := Aside0.mk HT
  go_enter Tryd.func41, Tryd.ntmps41
  go_wp2_with (go_at_call 63; (with_reducible refine ((hL _ HT.out).out).mono ?_); rintro e w1 ⟨rfl, hb⟩; have HB := Aside0.mk hb; clear hb)
  go_ret
  exact ⟨rfl, HB.out⟩
set_option maxHeartbeats 4000000 in
theorem tag_walk (key text : ByteArray) (w : World) (HT : Tab w) (hs : key.size ≤ 281474976710000) (ht : text.size ≤ 281474976710000) :
    Calls Tryd.prog 26 #[.string key, .string text] w fun e w' => e = .returned (.string (tagK key text)) ∧ Below w.heap.size w w' := by
  have hO := fun w h => Aside0.mk (outer_walk key w h (by omega))
  have hI := fun w h => Aside0.mk (inner_walk key w h (by omega))
  have zo : (outerK key).size = 64 := laidK_size _ _
  have zi : (innerK key).size = 64 := laidK_size _ _
  have zs : (sumK roots (innerK key ++ text)).size = 32 := sumK_size _ _
  have h1 := fun w h => Aside0.mk (sum_tab (innerK key ++ text) w h (by rw [ByteArray.size_append]; omega))
  have h2 := fun w h => Aside0.mk (sum_tab (outerK key ++ sumK roots (innerK key ++ text)) w h (by rw [ByteArray.size_append]; omega))
  have HQ : Aside0 (tagK key text = sumK roots (outerK key ++ sumK roots (innerK key ++ text))) := ⟨rfl⟩
  have HT := Aside0.mk HT
  have c1 : ((innerK key).size + text.size ≤ 9223372036854775807) = True := eq_true (by omega)
  have c2 : (9223372036854775807 < (innerK key).size + text.size) = False := eq_false (by omega)
  have c3 : ((outerK key).size + (sumK roots (innerK key ++ text)).size ≤ 9223372036854775807) = True := eq_true (by omega)
  have c4 : (9223372036854775807 < (outerK key).size + (sumK roots (innerK key ++ text)).size) = False := eq_false (by omega)
  clear zo zi zs
  generalize outerK key = O at hO h2 HQ c3 c4
  generalize innerK key = I at hI h1 h2 HQ c1 c2 c3 c4
  generalize sumK roots (I ++ text) = D at h1 h2 HQ c3 c4
  go_enter Tryd.func26, Tryd.ntmps26
  go_wp2_with (first
    | (go_at_call 41; (with_reducible refine ((hO _ HT.out).out).mono ?_); rintro e w1 ⟨rfl, hb⟩; have HB1 := Aside0.mk hb; have HT1 := Aside0.mk (HT.out.step hb); clear hb)
    | (go_at_call 42; (with_reducible refine ((hI _ HT1.out).out).mono ?_); rintro e w2 ⟨rfl, hb⟩; have HB2 := Aside0.mk (below_step HB1.out hb); have HT2 := Aside0.mk (HT1.out.step hb); clear hb)
    | (go_at_call 40; (with_reducible refine ((h1 _ HT2.out).out).mono ?_); rintro e w3 ⟨rfl, hb⟩; have HB3 := Aside0.mk (below_step HB2.out hb); have HT3 := Aside0.mk (HT2.out.step hb); clear hb h1)
    | (go_at_call 40; (with_reducible refine ((h2 _ HT3.out).out).mono ?_); rintro e w4 ⟨rfl, hb⟩; have HB4 := Aside0.mk (below_step HB3.out hb); clear hb))
  go_ret
  exact ⟨by rw [HQ.out]; rfl, HB4.out⟩
end Go.Proofs.YtpbnfnaebdmagaaDoor.Sha
-- printed by a program of this session out of the translation; see NOTES.md
namespace Go.Proofs.YtpbnfnaebdmagaaDoor.PT
open Go.RowKit Go.Proofs.YtpbnfnaebdmagaaDoorW.PrintWords Go.Proofs.YtpbnfnaebdmagaaDoorW.PrintLast Go.Proofs.YtpbnfnaebdmagaaDoorW.PrintMore
attribute [local go_sem] max2_int min2_int max_two min_two max_three min_three max_four min_four   -- for this text's walks alone
set_option linter.unusedVariables false
set_option linter.unusedSimpArgs false

/-! ### mac_Tag: function 26 -/
def mac_Tag.f (a0 : ByteArray) (a1 : ByteArray) : Option (ByteArray) := if a0.size ≤ 281474976710000 ∧ a1.size ≤ 281474976710000 then some (Sha.tagK a0 a1) else none
theorem mac_Tag.calls (a0 : ByteArray) (a1 : ByteArray) (r : ByteArray) (w : World) (h : mac_Tag.f a0 a1 = some r) (HTab : Aside0 (Sha.Tab w) := by first | exact HTab | exact Aside0.mk (HTab.out.step (by repeat (first | (with_reducible first | exact HB.out | apply below_alloc | apply pw_below_drewN | apply below_drew1 | refine below_set ?_ (Aside0.out (by assumption))) | exact HB.out)))) :
  Calls Tryd.prog 26 #[.string a0, .string a1] w fun e w' => e = .returned (.string r) ∧ Below w.heap.size w w' := by
 unfold mac_Tag.f at h
 split at h
 ·rename_i hc
  obtain rfl := Option.some.inj h
  exact Sha.tag_walk a0 a1 w HTab.out hc.1 hc.2
 ·cases h

end Go.Proofs.YtpbnfnaebdmagaaDoor.PT
-- printed by a program of this session out of the translation; see NOTES.md
namespace Go.Proofs.YtpbnfnaebdmagaaDoor.PT
open Go.RowKit Go.Proofs.YtpbnfnaebdmagaaDoorW.PrintWords Go.Proofs.YtpbnfnaebdmagaaDoorW.PrintLast Go.Proofs.YtpbnfnaebdmagaaDoorW.PrintMore Go.Proofs.YtpbnfnaebdmagaaDoorRb
attribute [local go_sem] max2_int min2_int max_two min_two max_three min_three max_four min_four   -- for this text's walks alone
set_option linter.unusedVariables false
set_option linter.unusedSimpArgs false

/-! ### token_Mint: function 12 -/
def token_Mint.f (k : Nat) (a0 : ByteArray) (a1_0 : Int) (a1_1 : Int) (a1_2 : Int) (a1_3 : Int) : Option (ByteArray) := (pack_Num.f a1_0).bind fun bt263 => ((pack_Num.f a1_1).bind fun bt269 => ((pack_Num.f a1_2).bind fun bt275 => ((pack_Num.f a1_3).bind fun bt281 => ((pack_All.f (([(⟨bt263.1, bt263.2.1, bt263.2.2.1, bt263.2.2.2⟩ : S51), (⟨bt269.1, bt269.2.1, bt269.2.2.1, bt269.2.2.2⟩ : S51), (⟨bt275.1, bt275.2.1, bt275.2.2.1, bt275.2.2.2⟩ : S51), (⟨bt281.1, bt281.2.1, bt281.2.2.1, bt281.2.2.2⟩ : S51)] : List (S51)))).bind fun bt290 => ((pack_Put.f k bt290.1 bt290.2.1 bt290.2.2.1 bt290.2.2.2).bind fun bt296 => ((mac_Tag.f a0 bt296.1).bind fun t298 => (if bt296.1.size + t298.size ≤ 9223372036854775807 then (some (bt296.1 ++ t298)) else (none))))))))
theorem token_Mint.mono : ∀ a0 a1 a2 a3 a4 k, LeO (token_Mint.f k a0 a1 a2 a3 a4) (token_Mint.f (k + 1) a0 a1 a2 a3 a4) := by
 intro a0 a1 a2 a3 a4 k
 unfold token_Mint.f
 repeat' first
   | (with_reducible exact pack_Put.mono _ _ _ _ _)
   | (with_reducible exact LeO.refl _)
   | (with_reducible exact LeO.none _)
   | (with_reducible refine LeO.ite ?_ ?_)
   | (with_reducible refine LeO.bind ?_ (fun _ => ?_))
   | exact pack_Put.mono _ _ _ _ _
   | exact LeO.none _
   | refine LeO.ite ?_ ?_
   | refine LeO.bind ?_ (fun _ => ?_)
def token_Mint.T1 : Bool × List (List Nat × List Nat) := (true, [([], []), ([0], [0]), ([1], [1]), ([], []), ([3], [3]), ([4, 2], [4]), ([], []), ([6], [6]), ([7, 5], [7]), ([], []), ([9], [9]), ([10, 8], [10]), ([2, 5, 8, 11], [2, 5, 8, 11]), ([12, 11], [12]), ([13, 13], [13]), ([14], [14]), ([15], [15]), ([15], [15]), ([16, 14, 0, 1, 2, 3, 4, 5, 6, 7, 8, 9, 10, 11, 12, 13, 14, 15, 16], [16]), ([17, 18, 0, 1, 2, 3, 4, 5, 6, 7, 8, 9, 10, 11, 12, 13, 14, 15, 16, 17, 18], [17])])
def token_Mint.B1 : List Nat := [0, 1, 3, 0, 8, 31, 0, 64, 255, 0, 512, 2047, 4095, 8191, 16383, 32767, 65535, 65535, 131071, 524287]
theorem token_Mint.tab1 : rtab .any (opsOf Tryd.f12 1) = token_Mint.T1 := by kernel_rfl
theorem token_Mint.bits1 : waitsOk token_Mint.T1.2 token_Mint.B1 = true := by kernel_rfl
set_option maxHeartbeats 8000000 in
set_option maxRecDepth 100000 in
theorem token_Mint.calls (k : Nat) (a0 : ByteArray) (a1_0 : Int) (a1_1 : Int) (a1_2 : Int) (a1_3 : Int) (r : ByteArray) (w : World) (h : token_Mint.f k a0 a1_0 a1_1 a1_2 a1_3 = some r) (HTab : Aside0 (Sha.Tab w) := by first | exact HTab | exact Aside0.mk (HTab.out.step (by repeat (first | (with_reducible first | exact HB.out | apply below_alloc | apply pw_below_drewN | apply below_drew1 | refine below_set ?_ (Aside0.out (by assumption))) | exact HB.out)))) :
  Calls Tryd.prog 12 #[.string a0, .agg #[.int .i64 a1_0, .int .i64 a1_1, .int .i64 a1_2, .int .i64 a1_3]] w fun e w' => e = .returned (.string r) ∧ Below w.heap.size w w' := by
 have hu23 := Tryd.underlying23
 have HB := Aside0.mk (Below.refl w.heap.size w)
 have H : ((pack_Num.f a1_0).bind fun bt263 => ((pack_Num.f a1_1).bind fun bt269 => ((pack_Num.f a1_2).bind fun bt275 => ((pack_Num.f a1_3).bind fun bt281 => ((pack_All.f (([(⟨bt263.1, bt263.2.1, bt263.2.2.1, bt263.2.2.2⟩ : S51), (⟨bt269.1, bt269.2.1, bt269.2.2.1, bt269.2.2.2⟩ : S51), (⟨bt275.1, bt275.2.1, bt275.2.2.1, bt275.2.2.2⟩ : S51), (⟨bt281.1, bt281.2.1, bt281.2.2.1, bt281.2.2.2⟩ : S51)] : List (S51)))).bind fun bt290 => ((pack_Put.f k bt290.1 bt290.2.1 bt290.2.2.1 bt290.2.2.2).bind fun bt296 => ((mac_Tag.f a0 bt296.1).bind fun t298 => (if bt296.1.size + t298.size ≤ 9223372036854775807 then (some (bt296.1 ++ t298)) else (none))))))))) = some r := h
 clear h
 replace H := Option.bind_eq_some_iff.mp H
 obtain ⟨⟨t263, t264, t265, t266⟩, A30, H⟩ := H
 replace H : ((pack_Num.f a1_1).bind fun bt269 => ((pack_Num.f a1_2).bind fun bt275 => ((pack_Num.f a1_3).bind fun bt281 => ((pack_All.f (([(⟨t263, t264, t265, t266⟩ : S51), (⟨bt269.1, bt269.2.1, bt269.2.2.1, bt269.2.2.2⟩ : S51), (⟨bt275.1, bt275.2.1, bt275.2.2.1, bt275.2.2.2⟩ : S51), (⟨bt281.1, bt281.2.1, bt281.2.2.1, bt281.2.2.2⟩ : S51)] : List (S51)))).bind fun bt290 => ((pack_Put.f k bt290.1 bt290.2.1 bt290.2.2.1 bt290.2.2.2).bind fun bt296 => ((mac_Tag.f a0 bt296.1).bind fun t298 => (if bt296.1.size + t298.size ≤ 9223372036854775807 then (some (bt296.1 ++ t298)) else (none)))))))) = some r := H
 have A3 := Aside0.mk A30
 clear A30
 replace H := Option.bind_eq_some_iff.mp H
 obtain ⟨⟨t269, t270, t271, t272⟩, A40, H⟩ := H
 replace H : ((pack_Num.f a1_2).bind fun bt275 => ((pack_Num.f a1_3).bind fun bt281 => ((pack_All.f (([(⟨t263, t264, t265, t266⟩ : S51), (⟨t269, t270, t271, t272⟩ : S51), (⟨bt275.1, bt275.2.1, bt275.2.2.1, bt275.2.2.2⟩ : S51), (⟨bt281.1, bt281.2.1, bt281.2.2.1, bt281.2.2.2⟩ : S51)] : List (S51)))).bind fun bt290 => ((pack_Put.f k bt290.1 bt290.2.1 bt290.2.2.1 bt290.2.2.2).bind fun bt296 => ((mac_Tag.f a0 bt296.1).bind fun t298 => (if bt296.1.size + t298.size ≤ 9223372036854775807 then (some (bt296.1 ++ t298)) else (none))))))) = some r := H
 have A4 := Aside0.mk A40
 clear A40
 replace H := Option.bind_eq_some_iff.mp H
 obtain ⟨⟨t275, t276, t277, t278⟩, A50, H⟩ := H
 replace H : ((pack_Num.f a1_3).bind fun bt281 => ((pack_All.f (([(⟨t263, t264, t265, t266⟩ : S51), (⟨t269, t270, t271, t272⟩ : S51), (⟨t275, t276, t277, t278⟩ : S51), (⟨bt281.1, bt281.2.1, bt281.2.2.1, bt281.2.2.2⟩ : S51)] : List (S51)))).bind fun bt290 => ((pack_Put.f k bt290.1 bt290.2.1 bt290.2.2.1 bt290.2.2.2).bind fun bt296 => ((mac_Tag.f a0 bt296.1).bind fun t298 => (if bt296.1.size + t298.size ≤ 9223372036854775807 then (some (bt296.1 ++ t298)) else (none)))))) = some r := H
 have A5 := Aside0.mk A50
 clear A50
 replace H := Option.bind_eq_some_iff.mp H
 obtain ⟨⟨t281, t282, t283, t284⟩, A60, H⟩ := H
 replace H : ((pack_All.f (([(⟨t263, t264, t265, t266⟩ : S51), (⟨t269, t270, t271, t272⟩ : S51), (⟨t275, t276, t277, t278⟩ : S51), (⟨t281, t282, t283, t284⟩ : S51)] : List (S51)))).bind fun bt290 => ((pack_Put.f k bt290.1 bt290.2.1 bt290.2.2.1 bt290.2.2.2).bind fun bt296 => ((mac_Tag.f a0 bt296.1).bind fun t298 => (if bt296.1.size + t298.size ≤ 9223372036854775807 then (some (bt296.1 ++ t298)) else (none))))) = some r := H
 have A6 := Aside0.mk A60
 clear A60
 obtain ⟨y287, hy287⟩ : ∃ y_ : List (S51), y_ = (([(⟨t263, t264, t265, t266⟩ : S51), (⟨t269, t270, t271, t272⟩ : S51), (⟨t275, t276, t277, t278⟩ : S51), (⟨t281, t282, t283, t284⟩ : S51)] : List (S51))) := ⟨_, rfl⟩
 replace H : ((pack_All.f y287).bind fun bt290 => ((pack_Put.f k bt290.1 bt290.2.1 bt290.2.2.1 bt290.2.2.2).bind fun bt296 => ((mac_Tag.f a0 bt296.1).bind fun t298 => (if bt296.1.size + t298.size ≤ 9223372036854775807 then (some (bt296.1 ++ t298)) else (none))))) = some r := by first | (rw [hy287]; with_reducible exact H) | (have H2_ := (Option.bind_some _ _).symm.trans H; rw [hy287]; with_reducible exact H2_) | (have H2_ := (Option.bind_some _ _).symm.trans H; with_reducible exact H2_) | with_reducible exact H | (rw [hy287]; exact H) | exact H
 have Ny287 := Aside0.mk hy287
 clear hy287
 replace H := Option.bind_eq_some_iff.mp H
 obtain ⟨⟨t290, t291, t292, t293⟩, A70, H⟩ := H
 replace H : ((pack_Put.f k t290 t291 t292 t293).bind fun bt296 => ((mac_Tag.f a0 bt296.1).bind fun t298 => (if bt296.1.size + t298.size ≤ 9223372036854775807 then (some (bt296.1 ++ t298)) else (none)))) = some r := H
 have A7 := Aside0.mk A70
 clear A70
 replace H := Option.bind_eq_some_iff.mp H
 obtain ⟨⟨t296, t297⟩, A80, H⟩ := H
 replace H : ((mac_Tag.f a0 t296).bind fun t298 => (if t296.size + t298.size ≤ 9223372036854775807 then (some (t296 ++ t298)) else (none))) = some r := H
 have A8 := Aside0.mk A80
 clear A80
 replace H := Option.bind_eq_some_iff.mp H
 obtain ⟨t298, A90, H⟩ := H
 replace H : (if t296.size + t298.size ≤ 9223372036854775807 then (some (t296 ++ t298)) else (none)) = some r := H
 have A9 := Aside0.mk A90
 clear A90
 by_cases c10 : t296.size + t298.size ≤ 9223372036854775807
 ·rw [if_pos c10] at H
  have c10b0 := eq_true c10
  have c10b1 : decide (t296.size + t298.size ≤ 9223372036854775807) = true := decide_eq_true c10
  try have c10b2 : (9223372036854775807 < t296.size + t298.size) = False := eq_false (Nat.not_lt.2 c10)
  obtain rfl := Option.some.inj H
  go_enter Tryd.func12, Tryd.ntmps12
  try go_wp2_with (first | ((with_reducible refine gate_dst (N := 3) rfl ?_); refine box_event ?hg (N := 3) ?hd (cs := #[.int .i64 a1_0, .int .i64 a1_1, .int .i64 a1_2, .int .i64 a1_3]) (t := 23) ?hr ?_; (case hd => rfl); (case hg => rfl); (case hr => first | (go_simp; done) | (go_simp; rfl)); intro gb262 hg w11 hbox hb; have n0_ := Aside0.mk (below_step bb hb); have n1_ := Aside0.mk (hbox); have n2_ := Aside0.mk ((by rw [hg]; exact (below_size bb) : w.heap.size ≤ gb262)); have n3_ := Aside0.mk ((by rw [hg]; exact (below_size bb) : w.heap.size ≤ gb262)); clear HB; have HB := n0_; have BK262 := n1_; have GW262 := n2_; have GE262 := n3_; clear n0_ n1_ n2_ n3_; clear hb hbox hg))
  have n0_ := Aside0.mk (blk_drew BK262.out)
  have n1_ := Aside0.mk (below_drew1 HB.out)
  clear BK262
  clear HB
  have BK262 := n0_
  have HB := n1_
  clear n0_ n1_
  refine start_ (n := 20) (S := fun w' => w'.cell? ⟨gb262, 0, none⟩ = some (.int .i64 a1_0) ∧ w'.cell? ⟨gb262, 1, none⟩ = some (.int .i64 a1_1) ∧ w'.cell? ⟨gb262, 2, none⟩ = some (.int .i64 a1_2) ∧ w'.cell? ⟨gb262, 3, none⟩ = some (.int .i64 a1_3)) (ds := []) #[false, false, false, false, false, false, false, false, false, false, false, false, false, false, false, false, false, false, false, false] (by kernel_rfl) rfl rfl ⟨(blk_cell BK262.out 0).trans rfl, (blk_cell BK262.out 1).trans rfl, (blk_cell BK262.out 2).trans rfl, (blk_cell BK262.out 3).trans rfl⟩ (fun hHeld => ?_); refine with_tabW token_Mint.tab1 token_Mint.bits1 (fun HT_ HW_ => ?_)
  generalize w11.drew = w12 at BK262 HB hHeld ⊢
  refine pure_ (i := 0) (N := some 8) (v := ?_) (a' := ?_) #[true, false, false, false, false, false, false, false, false, false, false, false, false, false, false, false, false, false, false, false] rfl rfl (any_of HT_.out (by kernel_rfl)) (fun _ _ _ h => h) (Or.inl ⟨by rfl, ?_⟩) ?_ ?_
  rotate_left
  ·intro w'
   go_simp
   with_reducible rfl
  rotate_left
  ·simp only [Act.put, List.setIfInBounds_toArray, List.set_cons_zero, List.set_cons_succ, i64_w, i32_w]
   rfl
  refine pure_ (i := 3) (N := some 11) (v := ?_) (a' := ?_) #[true, false, false, true, false, false, false, false, false, false, false, false, false, false, false, false, false, false, false, false] rfl rfl (any_of HT_.out (by kernel_rfl)) (fun _ _ _ h => h) (Or.inl ⟨by rfl, ?_⟩) ?_ ?_
  rotate_left
  ·intro w'
   go_simp
   with_reducible rfl
  rotate_left
  ·simp only [Act.put, List.setIfInBounds_toArray, List.set_cons_zero, List.set_cons_succ, i64_w, i32_w]
   rfl
  refine pure_ (i := 6) (N := some 14) (v := ?_) (a' := ?_) #[true, false, false, true, false, false, true, false, false, false, false, false, false, false, false, false, false, false, false, false] rfl rfl (any_of HT_.out (by kernel_rfl)) (fun _ _ _ h => h) (Or.inl ⟨by rfl, ?_⟩) ?_ ?_
  rotate_left
  ·intro w'
   go_simp
   with_reducible rfl
  rotate_left
  ·simp only [Act.put, List.setIfInBounds_toArray, List.set_cons_zero, List.set_cons_succ, i64_w, i32_w]
   rfl
  refine pure_ (i := 9) (N := some 17) (v := ?_) (a' := ?_) #[true, false, false, true, false, false, true, false, false, true, false, false, false, false, false, false, false, false, false, false] rfl rfl (any_of HT_.out (by kernel_rfl)) (fun _ _ _ h => h) (Or.inl ⟨by rfl, ?_⟩) ?_ ?_
  rotate_left
  ·intro w'
   go_simp
   with_reducible rfl
  rotate_left
  ·simp only [Act.put, List.setIfInBounds_toArray, List.set_cons_zero, List.set_cons_succ, i64_w, i32_w]
   rfl
  refine take_ (i := 1) (N := some 9) (v := ?_) (a' := ?_) #[true, true, false, true, false, false, true, false, false, true, false, false, false, false, false, false, false, false, false, false] rfl rfl (take_ofW HT_.out HW_.out (by kernel_rfl)) (fun _ _ _ h => h) (Or.inl ⟨by rfl, ?_⟩) hHeld ?_ ?_
  rotate_left
  ·rintro w' ⟨s0, s1, s2, s3⟩
   go_simp
   with_reducible rfl
  rotate_left
  ·simp only [Act.put, List.setIfInBounds_toArray, List.set_cons_zero, List.set_cons_succ, i64_w, i32_w]
   rfl
  refine take_ (i := 4) (N := some 12) (v := ?_) (a' := ?_) #[true, true, false, true, true, false, true, false, false, true, false, false, false, false, false, false, false, false, false, false] rfl rfl (take_ofW HT_.out HW_.out (by kernel_rfl)) (fun _ _ _ h => h) (Or.inl ⟨by rfl, ?_⟩) hHeld ?_ ?_
  rotate_left
  ·rintro w' ⟨s0, s1, s2, s3⟩
   go_simp
   with_reducible rfl
  rotate_left
  ·simp only [Act.put, List.setIfInBounds_toArray, List.set_cons_zero, List.set_cons_succ, i64_w, i32_w]
   rfl
  refine take_ (i := 7) (N := some 15) (v := ?_) (a' := ?_) #[true, true, false, true, true, false, true, true, false, true, false, false, false, false, false, false, false, false, false, false] rfl rfl (take_ofW HT_.out HW_.out (by kernel_rfl)) (fun _ _ _ h => h) (Or.inl ⟨by rfl, ?_⟩) hHeld ?_ ?_
  rotate_left
  ·rintro w' ⟨s0, s1, s2, s3⟩
   go_simp
   with_reducible rfl
  rotate_left
  ·simp only [Act.put, List.setIfInBounds_toArray, List.set_cons_zero, List.set_cons_succ, i64_w, i32_w]
   rfl
  refine take_ (i := 10) (N := some 18) (v := ?_) (a' := ?_) #[true, true, false, true, true, false, true, true, false, true, true, false, false, false, false, false, false, false, false, false] rfl rfl (take_ofW HT_.out HW_.out (by kernel_rfl)) (fun _ _ _ h => h) (Or.inl ⟨by rfl, ?_⟩) hHeld ?_ ?_
  rotate_left
  ·rintro w' ⟨s0, s1, s2, s3⟩
   go_simp
   with_reducible rfl
  rotate_left
  ·simp only [Act.put, List.setIfInBounds_toArray, List.set_cons_zero, List.set_cons_succ, i64_w, i32_w]
   rfl
  refine one_ (i := 2) (N := some 10) #[true, true, true, true, true, false, true, true, false, true, true, false, false, false, false, false, false, false, false, false] rfl rfl (one_of HT_.out (by kernel_rfl)) (by decide) (fun K hK => ?_)
  refine goes_ Tryd.func25 (by kernel_rfl) rfl #[.int .i64 a1_0] (by rfl) rfl rfl ag ?_
  with_reducible refine (pack_Num.calls a1_0 t263 t264 t265 t266 _ A3.out).mono ?_
  rintro e w13 ⟨v267, rfl, ho0, hb⟩
  refine ⟨_, rfl, ?_⟩
  have n0_ := Aside0.mk (Kd.N_lower (Kd.N_mono (ok' := fun k_ => k_ ≠ gb262) (Kd.R_N (Kd.R_bound ho0)) (fun k_ hk_ => (Kd.freshB (rb BK262.out) k_ hk_.2.1))) (below_size bb))
  have n1_ := Aside0.mk (blk_below (rb BK262.out) hb)
  have n2_ := Aside0.mk (below_step bb hb)
  clear BK262
  clear HB
  have HO268 := n0_
  have BK262 := n1_
  have HB := n2_
  clear n0_ n1_ n2_
  (try clear hb)
  (try clear hb2)
  (try clear hk)
  (try clear hi)
  (try clear ho0)
  refine hK.out _ _ ⟨(blk_cell BK262.out 0).trans rfl, (blk_cell BK262.out 1).trans rfl, (blk_cell BK262.out 2).trans rfl, (blk_cell BK262.out 3).trans rfl⟩ (fun hHeld => ?_)
  clear hK K
  refine norm_ (a' := ?_) ?_ ?_
  rotate_left
  ·show Act.put _ (some 10) _ = _
   simp only [Act.put, List.setIfInBounds_toArray, List.set_cons_zero, List.set_cons_succ, i64_w, i32_w]
   rfl
  refine one_ (i := 5) (N := some 13) #[true, true, true, true, true, true, true, true, false, true, true, false, false, false, false, false, false, false, false, false] rfl rfl (one_of HT_.out (by kernel_rfl)) (by decide) (fun K hK => ?_)
  refine goes_ Tryd.func25 (by kernel_rfl) rfl #[.int .i64 a1_1] (by rfl) rfl rfl ag ?_
  with_reducible refine (pack_Num.calls a1_1 t269 t270 t271 t272 _ A4.out).mono ?_
  rintro e w14 ⟨v273, rfl, ho0, hb⟩
  refine ⟨_, rfl, ?_⟩
  have n0_ := Aside0.mk (Kd.N_elder' (kN HO268.out) (by first | exact Kd.N_base ho0 | exact Kd.N_base (Kd.R_N ho0)) hb)
  have n1_ := Aside0.mk (Kd.N_lower (Kd.N_mono (ok' := fun k_ => some k_ ≠ (v267 : Value).ownBlock ∧ k_ ≠ gb262) (Kd.R_N (Kd.R_bound ho0)) (fun k_ hk_ => ⟨(Kd.fresh' (Kd.N_lt (kN HO268.out)) k_ hk_.2.1), (Kd.freshB (rb BK262.out) k_ hk_.2.1)⟩)) (below_size bb))
  have n2_ := Aside0.mk (blk_below (rb BK262.out) hb)
  have n3_ := Aside0.mk (below_step bb hb)
  clear HO268
  clear BK262
  clear HB
  have HO268 := n0_
  have HO274 := n1_
  have BK262 := n2_
  have HB := n3_
  clear n0_ n1_ n2_ n3_
  (try clear hb)
  (try clear hb2)
  (try clear hk)
  (try clear hi)
  (try clear ho0)
  refine hK.out _ _ ⟨(blk_cell BK262.out 0).trans rfl, (blk_cell BK262.out 1).trans rfl, (blk_cell BK262.out 2).trans rfl, (blk_cell BK262.out 3).trans rfl⟩ (fun hHeld => ?_)
  clear hK K
  refine norm_ (a' := ?_) ?_ ?_
  rotate_left
  ·show Act.put _ (some 13) _ = _
   simp only [Act.put, List.setIfInBounds_toArray, List.set_cons_zero, List.set_cons_succ, i64_w, i32_w]
   rfl
  refine one_ (i := 8) (N := some 16) #[true, true, true, true, true, true, true, true, true, true, true, false, false, false, false, false, false, false, false, false] rfl rfl (one_of HT_.out (by kernel_rfl)) (by decide) (fun K hK => ?_)
  refine goes_ Tryd.func25 (by kernel_rfl) rfl #[.int .i64 a1_2] (by rfl) rfl rfl ag ?_
  with_reducible refine (pack_Num.calls a1_2 t275 t276 t277 t278 _ A5.out).mono ?_
  rintro e w15 ⟨v279, rfl, ho0, hb⟩
  refine ⟨_, rfl, ?_⟩
  have n0_ := Aside0.mk (Kd.N_elder' (kN HO268.out) (by first | exact Kd.N_base ho0 | exact Kd.N_base (Kd.R_N ho0)) hb)
  have n1_ := Aside0.mk (Kd.N_elder' (kN HO274.out) (by first | exact Kd.N_base ho0 | exact Kd.N_base (Kd.R_N ho0)) hb)
  have n2_ := Aside0.mk (Kd.N_lower (Kd.N_mono (ok' := fun k_ => some k_ ≠ (v267 : Value).ownBlock ∧ some k_ ≠ (v273 : Value).ownBlock ∧ k_ ≠ gb262) (Kd.R_N (Kd.R_bound ho0)) (fun k_ hk_ => ⟨(Kd.fresh' (Kd.N_lt (kN HO268.out)) k_ hk_.2.1), (Kd.fresh' (Kd.N_lt (kN HO274.out)) k_ hk_.2.1), (Kd.freshB (rb BK262.out) k_ hk_.2.1)⟩)) (below_size bb))
  have n3_ := Aside0.mk (blk_below (rb BK262.out) hb)
  have n4_ := Aside0.mk (below_step bb hb)
  clear HO268
  clear HO274
  clear BK262
  clear HB
  have HO268 := n0_
  have HO274 := n1_
  have HO280 := n2_
  have BK262 := n3_
  have HB := n4_
  clear n0_ n1_ n2_ n3_ n4_
  (try clear hb)
  (try clear hb2)
  (try clear hk)
  (try clear hi)
  (try clear ho0)
  refine hK.out _ _ ⟨(blk_cell BK262.out 0).trans rfl, (blk_cell BK262.out 1).trans rfl, (blk_cell BK262.out 2).trans rfl, (blk_cell BK262.out 3).trans rfl⟩ (fun hHeld => ?_)
  clear hK K
  refine norm_ (a' := ?_) ?_ ?_
  rotate_left
  ·show Act.put _ (some 16) _ = _
   simp only [Act.put, List.setIfInBounds_toArray, List.set_cons_zero, List.set_cons_succ, i64_w, i32_w]
   rfl
  refine one_ (i := 11) (N := some 19) #[true, true, true, true, true, true, true, true, true, true, true, true, false, false, false, false, false, false, false, false] rfl rfl (one_of HT_.out (by kernel_rfl)) (by decide) (fun K hK => ?_)
  refine goes_ Tryd.func25 (by kernel_rfl) rfl #[.int .i64 a1_3] (by rfl) rfl rfl ag ?_
  with_reducible refine (pack_Num.calls a1_3 t281 t282 t283 t284 _ A6.out).mono ?_
  rintro e w16 ⟨v285, rfl, ho0, hb⟩
  refine ⟨_, rfl, ?_⟩
  have n0_ := Aside0.mk (Kd.N_elder' (kN HO268.out) (by first | exact Kd.N_base ho0 | exact Kd.N_base (Kd.R_N ho0)) hb)
  have n1_ := Aside0.mk (Kd.N_elder' (kN HO274.out) (by first | exact Kd.N_base ho0 | exact Kd.N_base (Kd.R_N ho0)) hb)
  have n2_ := Aside0.mk (Kd.N_elder' (kN HO280.out) (by first | exact Kd.N_base ho0 | exact Kd.N_base (Kd.R_N ho0)) hb)
  have n3_ := Aside0.mk (Kd.N_lower (Kd.N_mono (ok' := fun k_ => some k_ ≠ (v267 : Value).ownBlock ∧ some k_ ≠ (v273 : Value).ownBlock ∧ some k_ ≠ (v279 : Value).ownBlock ∧ k_ ≠ gb262) (Kd.R_N (Kd.R_bound ho0)) (fun k_ hk_ => ⟨(Kd.fresh' (Kd.N_lt (kN HO268.out)) k_ hk_.2.1), (Kd.fresh' (Kd.N_lt (kN HO274.out)) k_ hk_.2.1), (Kd.fresh' (Kd.N_lt (kN HO280.out)) k_ hk_.2.1), (Kd.freshB (rb BK262.out) k_ hk_.2.1)⟩)) (below_size bb))
  have n4_ := Aside0.mk (blk_below (rb BK262.out) hb)
  have n5_ := Aside0.mk (below_step bb hb)
  clear HO268
  clear HO274
  clear HO280
  clear BK262
  clear HB
  have HO268 := n0_
  have HO274 := n1_
  have HO280 := n2_
  have HO286 := n3_
  have BK262 := n4_
  have HB := n5_
  clear n0_ n1_ n2_ n3_ n4_ n5_
  (try clear hb)
  (try clear hb2)
  (try clear hk)
  (try clear hi)
  (try clear ho0)
  obtain ⟨Ao17, co17, eo17⟩ := Kd.N_slice HO268.out
  (first | subst eo17 | (injection eo17 with f1_ f2_ f3_; have f4_ := f1_.symm; have f5_ := f3_.symm; clear f1_ f2_ f3_; subst f4_; subst f5_))
  obtain ⟨Ao18, co18, eo18⟩ := Kd.N_slice HO274.out
  (first | subst eo18 | (injection eo18 with f1_ f2_ f3_; have f4_ := f1_.symm; have f5_ := f3_.symm; clear f1_ f2_ f3_; subst f4_; subst f5_))
  obtain ⟨Ao19, co19, eo19⟩ := Kd.N_slice HO280.out
  (first | subst eo19 | (injection eo19 with f1_ f2_ f3_; have f4_ := f1_.symm; have f5_ := f3_.symm; clear f1_ f2_ f3_; subst f4_; subst f5_))
  obtain ⟨Ao20, co20, eo20⟩ := Kd.N_slice HO286.out
  (first | subst eo20 | (injection eo20 with f1_ f2_ f3_; have f4_ := f1_.symm; have f5_ := f3_.symm; clear f1_ f2_ f3_; subst f4_; subst f5_))
  refine hK.out _ _ ⟨(blk_cell BK262.out 0).trans rfl, (blk_cell BK262.out 1).trans rfl, (blk_cell BK262.out 2).trans rfl, (blk_cell BK262.out 3).trans rfl⟩ (fun hHeld => ?_)
  clear hK K
  refine norm_ (a' := ?_) ?_ ?_
  rotate_left
  ·show Act.put _ (some 19) _ = _
   simp only [Act.put, List.setIfInBounds_toArray, List.set_cons_zero, List.set_cons_succ, i64_w, i32_w]
   rfl
  refine one_ (i := 12) (N := some 20) #[true, true, true, true, true, true, true, true, true, true, true, true, true, false, false, false, false, false, false, false] rfl rfl (one_of HT_.out (by kernel_rfl)) (by decide) (fun K hK => ?_)
  refine Kd.N_lit_step k51 _ 51 ?hg (N' := 20) ?hd (xs := ([(⟨t263, t264, t265, t266⟩ : S51), (⟨t269, t270, t271, t272⟩ : S51), (⟨t275, t276, t277, t278⟩ : S51), (⟨t281, t282, t283, t284⟩ : S51)] : List (S51))) (inner := [.int .i64 t263, .int .i64 t264, .string t265, .slice Ao17 t266.length co17, .int .i64 t269, .int .i64 t270, .string t271, .slice Ao18 t272.length co18, .int .i64 t275, .int .i64 t276, .string t277, .slice Ao19 t278.length co19, .int .i64 t281, .int .i64 t282, .string t283, .slice Ao20 t284.length co20]) (ok := (fun k_ => k_ ≠ gb262)) (okp := (fun k_ => k_ ≠ gb262)) ?hr ?hp (fun _ hk => hk) ((show ∀ k_, w16.heap.size ≤ k_ → (fun k_ => k_ ≠ gb262) k_ from fun k_ hk => Kd.freshB (rb BK262.out) k_ hk) _ (Nat.le_refl _)) (Below.refl _ _) (Nat.le_refl _) (by simp) ?_; (case hd => rfl); (case hg => rfl); (case hr => first | (go_simp; done) | (go_simp; rfl)); (case hp => exact (Reps.c4 (show Kd.FK k51 _ _ (⟨t263, t264, t265, t266⟩ : S51) [.int .i64 t263, .int .i64 t264, .string t265, .slice Ao17 t266.length co17] from (k51_mkF _ _ (⟨t263, t264, t265, t266⟩ : S51) (Kd.N_reads' (Kd.N_mono (ok' := (fun k_ => k_ ≠ gb262)) (HO268.out) (fun k_ hk => hk.1.1.1))).2.1 (Kd.N_F (Kd.N_mono (ok' := (fun k_ => k_ ≠ gb262)) (HO268.out) (fun k_ hk => hk.1.1.1))))) (Reps.c4 (show Kd.FK k51 _ _ (⟨t269, t270, t271, t272⟩ : S51) [.int .i64 t269, .int .i64 t270, .string t271, .slice Ao18 t272.length co18] from (k51_mkF _ _ (⟨t269, t270, t271, t272⟩ : S51) (Kd.N_reads' (Kd.N_mono (ok' := (fun k_ => k_ ≠ gb262)) (HO274.out) (fun k_ hk => hk.1.1.2))).2.1 (Kd.N_F (Kd.N_mono (ok' := (fun k_ => k_ ≠ gb262)) (HO274.out) (fun k_ hk => hk.1.1.2))))) (Reps.c4 (show Kd.FK k51 _ _ (⟨t275, t276, t277, t278⟩ : S51) [.int .i64 t275, .int .i64 t276, .string t277, .slice Ao19 t278.length co19] from (k51_mkF _ _ (⟨t275, t276, t277, t278⟩ : S51) (Kd.N_reads' (Kd.N_mono (ok' := (fun k_ => k_ ≠ gb262)) (HO280.out) (fun k_ hk => hk.1.2.2))).2.1 (Kd.N_F (Kd.N_mono (ok' := (fun k_ => k_ ≠ gb262)) (HO280.out) (fun k_ hk => hk.1.2.2))))) (Reps.c4 (show Kd.FK k51 _ _ (⟨t281, t282, t283, t284⟩ : S51) [.int .i64 t281, .int .i64 t282, .string t283, .slice Ao20 t284.length co20] from (k51_mkF _ _ (⟨t281, t282, t283, t284⟩ : S51) (Kd.N_reads' (Kd.N_mono (ok' := (fun k_ => k_ ≠ gb262)) (HO286.out) (fun k_ hk => hk.2.2.2))).2.1 (Kd.N_F (Kd.N_mono (ok' := (fun k_ => k_ ≠ gb262)) (HO286.out) (fun k_ hk => hk.2.2.2))))) (Reps.none _ _))))))
  intro v288 w21 ho22 hb hg_ hnew_
  clear hg_ hnew_
  (first | rw [← Ny287.out] at ho22 | (simp only [Int.reduceToNat] at ho22; rw [← Ny287.out] at ho22))
  have n0_ := Aside0.mk (Kd.N_lower ho22 (below_size bb))
  have n1_ := Aside0.mk (blk_below (rb BK262.out) hb)
  have n2_ := Aside0.mk (below_step bb hb)
  clear BK262
  clear HB
  clear HO268
  clear HO274
  clear HO280
  clear HO286
  have HO289 := n0_
  have BK262 := n1_
  have HB := n2_
  clear n0_ n1_ n2_
  clear hb ho22
  obtain ⟨Ao23, co23, eo23⟩ := Kd.N_slice HO289.out
  (first | subst eo23 | (injection eo23 with f1_ f2_ f3_; have f4_ := f1_.symm; have f5_ := f3_.symm; clear f1_ f2_ f3_; subst f4_; subst f5_))
  refine hK.out _ _ ⟨(blk_cell BK262.out 0).trans rfl, (blk_cell BK262.out 1).trans rfl, (blk_cell BK262.out 2).trans rfl, (blk_cell BK262.out 3).trans rfl⟩ (fun hHeld => ?_)
  clear hK K
  refine norm_ (a' := ?_) ?_ ?_
  rotate_left
  ·show Act.put _ (some 20) _ = _
   simp only [Act.put, List.setIfInBounds_toArray, List.set_cons_zero, List.set_cons_succ, i64_w, i32_w]
   rfl
  refine one_ (i := 13) (N := some 21) #[true, true, true, true, true, true, true, true, true, true, true, true, true, true, false, false, false, false, false, false] rfl rfl (one_of HT_.out (by kernel_rfl)) (by decide) (fun K hK => ?_)
  refine goes_ Tryd.func24 (by kernel_rfl) rfl #[.slice Ao23 y287.length co23] (by rfl) rfl rfl ag ?_
  with_reducible refine (pack_All.calls (fun k_ => k_ ≠ gb262) _ _ y287 t290 t291 t292 t293 _ ?side1 A7.out).mono ?_
  (case side1 => exact Kd.N_V (HO289.out))
  rintro e w24 ⟨v294, rfl, ho0, hb⟩
  refine ⟨_, rfl, ?_⟩
  have n0_ := Aside0.mk (Kd.N_elder' (kN HO289.out) (by first | exact Kd.N_base ho0 | exact Kd.N_base (Kd.R_N ho0)) hb)
  have n1_ := Aside0.mk (Kd.N_lower (Kd.N_mono (ok' := fun k_ => k_ ≠ gb262) ho0 (fun k_ hk_ => Or.elim hk_ (fun hs_ => hs_) (fun hn_ => (Kd.freshB (rb BK262.out) k_ hn_)))) (below_size bb))
  have n2_ := Aside0.mk (blk_below (rb BK262.out) hb)
  have n3_ := Aside0.mk (below_step bb hb)
  clear HO289
  clear BK262
  clear HB
  have HO289 := n0_
  have HO295 := n1_
  have BK262 := n2_
  have HB := n3_
  clear n0_ n1_ n2_ n3_
  (try clear hb)
  (try clear hb2)
  (try clear hk)
  (try clear hi)
  (try clear ho0)
  obtain ⟨Ao25, co25, eo25⟩ := Kd.N_slice HO295.out
  (first | subst eo25 | (injection eo25 with f1_ f2_ f3_; have f4_ := f1_.symm; have f5_ := f3_.symm; clear f1_ f2_ f3_; subst f4_; subst f5_))
  refine hK.out _ _ ⟨(blk_cell BK262.out 0).trans rfl, (blk_cell BK262.out 1).trans rfl, (blk_cell BK262.out 2).trans rfl, (blk_cell BK262.out 3).trans rfl⟩ (fun hHeld => ?_)
  clear hK K
  refine norm_ (a' := ?_) ?_ ?_
  rotate_left
  ·show Act.put _ (some 21) _ = _
   simp only [Act.put, List.setIfInBounds_toArray, List.set_cons_zero, List.set_cons_succ, i64_w, i32_w]
   rfl
  refine one_ (i := 14) (N := some 22) #[true, true, true, true, true, true, true, true, true, true, true, true, true, true, true, false, false, false, false, false] rfl rfl (one_of HT_.out (by kernel_rfl)) (by decide) (fun K hK => ?_)
  refine goes_ Tryd.func23 (by kernel_rfl) rfl #[.agg #[.int .i64 t290, .int .i64 t291, .string t292, .slice Ao25 t293.length co25]] (by rfl) rfl rfl ag ?_
  with_reducible refine (pack_Put.calls k t290 t291 t292 _ _ t293 t296 t297 _ ?side1 ?side2 A8.out).mono ?_
  (case side1 => repeat (first | exact (Kd.N_reads' HO295.out).2.2 | (with_reducible refine Kd.C_alloc ?_ _) | (with_reducible refine Kd.C_drewN ?_ _) | (with_reducible refine Kd.C_drew ?_)))
  (case side2 => exact (Kd.N_reads' HO295.out).2.1)
  rintro e w26 ⟨rfl, hb⟩
  refine ⟨_, rfl, ?_⟩
  have n0_ := Aside0.mk (Kd.N_below (kN HO289.out) hb)
  have n1_ := Aside0.mk (Kd.N_below (kN HO295.out) hb)
  have n2_ := Aside0.mk (blk_below (rb BK262.out) hb)
  have n3_ := Aside0.mk (below_step bb hb)
  clear HO289
  clear HO295
  clear BK262
  clear HB
  have HO289 := n0_
  have HO295 := n1_
  have BK262 := n2_
  have HB := n3_
  clear n0_ n1_ n2_ n3_
  (try clear hb)
  (try clear hb2)
  (try clear hk)
  (try clear hi)
  refine hK.out _ _ ⟨(blk_cell BK262.out 0).trans rfl, (blk_cell BK262.out 1).trans rfl, (blk_cell BK262.out 2).trans rfl, (blk_cell BK262.out 3).trans rfl⟩ (fun hHeld => ?_)
  clear hK K
  refine norm_ (a' := ?_) ?_ ?_
  rotate_left
  ·show Act.put _ (some 22) _ = _
   simp only [Act.put, List.setIfInBounds_toArray, List.set_cons_zero, List.set_cons_succ, i64_w, i32_w]
   rfl
  refine pure_ (i := 15) (N := some 7) (v := ?_) (a' := ?_) #[true, true, true, true, true, true, true, true, true, true, true, true, true, true, true, true, false, false, false, false] rfl rfl (any_of HT_.out (by kernel_rfl)) (fun _ _ _ h => h) (Or.inl ⟨by rfl, ?_⟩) ?_ ?_
  rotate_left
  ·intro w'
   go_simp
   with_reducible rfl
  rotate_left
  ·simp only [Act.put, List.setIfInBounds_toArray, List.set_cons_zero, List.set_cons_succ, i64_w, i32_w]
   rfl
  refine pure_ (i := 16) (N := some 23) (v := ?_) (a' := ?_) #[true, true, true, true, true, true, true, true, true, true, true, true, true, true, true, true, true, false, false, false] rfl rfl (any_of HT_.out (by kernel_rfl)) (fun _ _ _ h => h) (Or.inl ⟨by rfl, ?_⟩) ?_ ?_
  rotate_left
  ·intro w'
   go_simp
   with_reducible rfl
  rotate_left
  ·simp only [Act.put, List.setIfInBounds_toArray, List.set_cons_zero, List.set_cons_succ, i64_w, i32_w]
   rfl
  refine pure_ (i := 17) (N := some 24) (v := ?_) (a' := ?_) #[true, true, true, true, true, true, true, true, true, true, true, true, true, true, true, true, true, true, false, false] rfl rfl (any_of HT_.out (by kernel_rfl)) (fun _ _ _ h => h) (Or.inl ⟨by rfl, ?_⟩) ?_ ?_
  rotate_left
  ·intro w'
   go_simp
   with_reducible rfl
  rotate_left
  ·simp only [Act.put, List.setIfInBounds_toArray, List.set_cons_zero, List.set_cons_succ, i64_w, i32_w]
   rfl
  refine pure_ (i := 18) (N := some 5) (v := ?_) (a' := ?_) #[true, true, true, true, true, true, true, true, true, true, true, true, true, true, true, true, true, true, true, false] rfl rfl (any_of HT_.out (by kernel_rfl)) (fun _ _ _ h => h) (Or.inl ⟨by rfl, ?_⟩) ?_ ?_
  rotate_left
  ·intro w'
   go_simp
   with_reducible rfl
  rotate_left
  ·simp only [Act.put, List.setIfInBounds_toArray, List.set_cons_zero, List.set_cons_succ, i64_w, i32_w]
   rfl
  refine pure_ (i := 19) (N := some 6) (v := ?_) (a' := ?_) #[true, true, true, true, true, true, true, true, true, true, true, true, true, true, true, true, true, true, true, true] rfl rfl (any_of HT_.out (by kernel_rfl)) (fun _ _ _ h => h) (Or.inl ⟨by rfl, ?_⟩) ?_ ?_
  rotate_left
  ·intro w'
   go_simp
   with_reducible rfl
  rotate_left
  ·simp only [Act.put, List.setIfInBounds_toArray, List.set_cons_zero, List.set_cons_succ, i64_w, i32_w]
   rfl
  refine done_ (done_of HT_.out (by kernel_rfl)) ?_
  try go_wp2_with (first | ((with_reducible refine gate_callee (f := 26) rfl ?_); refine goesL_ (some 28) rfl rfl Tryd.func26 (by kernel_rfl) rfl #[.string a0, .string t296] rfl ag ?_; (with_reducible refine (mac_Tag.calls a0 t296 t298 _ A9.out).mono ?_); rintro e w27 ⟨rfl, hb⟩; refine ⟨_, rfl, ?_⟩; have n0_ := Aside0.mk (Kd.N_below (kN HO289.out) hb); have n1_ := Aside0.mk (Kd.N_below (kN HO295.out) hb); have n2_ := Aside0.mk (blk_below (rb BK262.out) hb); have n3_ := Aside0.mk (below_step bb hb); clear HO289; clear HO295; clear BK262; clear HB; have HO289 := n0_; have HO295 := n1_; have BK262 := n2_; have HB := n3_; clear n0_ n1_ n2_ n3_; (try clear hb); (try clear hb2); (try clear hk); (try clear hi)))
  go_ret
  exact ⟨by first | rfl | (simp [errW_none, errW_some] <;> rfl) | (simp [*, errW_none, errW_some] <;> rfl), bb⟩
 ·rw [if_neg c10] at H
  exact absurd H (by simp)

end Go.Proofs.YtpbnfnaebdmagaaDoor.PT
-- printed by a program of this session out of the translation; see NOTES.md
namespace Go.Proofs.YtpbnfnaebdmagaaDoor.PT
open Go.RowKit Go.Proofs.YtpbnfnaebdmagaaDoorW.PrintWords Go.Proofs.YtpbnfnaebdmagaaDoorW.PrintLast Go.Proofs.YtpbnfnaebdmagaaDoorW.PrintMore Go.Proofs.YtpbnfnaebdmagaaDoorRb
attribute [local go_sem] max2_int min2_int max_two min_two max_three min_three max_four min_four   -- for this text's walks alone
set_option linter.unusedVariables false
set_option linter.unusedSimpArgs false

attribute [local go_sem high] eqA23
/-! ### precinctlaw09_wakes: function 11 -/
def precinctlaw09_wakes.f (k : Nat)  : Option (Bool) := (token_Mint.f k (⟨#[107]⟩ : ByteArray) 0 0 0 0).bind fun t299 => ((token_Parse.f k t299).bind fun bt300 => (if (t299.size : Int) = 43 then (if 0 ≤ 11 then (if 11 ≤ (t299.size : Int) then (if (t299.extract 0 11).toList = ([3, 0, 4, 1, 0, 1, 0, 1, 0, 1, 0] : List UInt8) then (if bt300.2.2.2.2.2 = 0 then (if (bt300.1 == 0 && (bt300.2.1 == 0 && (bt300.2.2.1 == 0 && (bt300.2.2.2.1 == 0)))) = true then (some (bt300.2.2.2.2.1.toList == (t299.extract 11 t299.size).toList)) else (some false)) else (some false)) else (some false)) else (none)) else (none)) else (some false)))
theorem precinctlaw09_wakes.mono : ∀ k, LeO (precinctlaw09_wakes.f k ) (precinctlaw09_wakes.f (k + 1) ) := by
 intro  k
 unfold precinctlaw09_wakes.f
 repeat' first
   | (with_reducible exact token_Mint.mono _ _ _ _ _ _)
   | (with_reducible exact token_Parse.mono _ _)
   | (with_reducible exact LeO.refl _)
   | (with_reducible exact LeO.none _)
   | (with_reducible refine LeO.ite ?_ ?_)
   | (with_reducible refine LeO.bind ?_ (fun _ => ?_))
   | exact token_Mint.mono _ _ _ _ _ _
   | exact token_Parse.mono _ _
   | exact LeO.none _
   | refine LeO.ite ?_ ?_
   | refine LeO.bind ?_ (fun _ => ?_)
set_option maxHeartbeats 8000000 in
set_option maxRecDepth 100000 in
theorem precinctlaw09_wakes.calls (k : Nat)  (r : Bool) (w : World) (h : precinctlaw09_wakes.f k  = some r) (HTab : Aside0 (Sha.Tab w) := by first | exact HTab | exact Aside0.mk (HTab.out.step (by repeat (first | (with_reducible first | exact HB.out | apply below_alloc | apply pw_below_drewN | apply below_drew1 | refine below_set ?_ (Aside0.out (by assumption))) | exact HB.out)))) :
  Calls Tryd.prog 11 #[] w fun e w' => e = .returned (.bool r) ∧ Below w.heap.size w w' := by
 have hu23 := Tryd.underlying23
 have HB := Aside0.mk (Below.refl w.heap.size w)
 have H : ((token_Mint.f k (⟨#[107]⟩ : ByteArray) 0 0 0 0).bind fun t299 => ((token_Parse.f k t299).bind fun bt300 => (if (t299.size : Int) = 43 then (if 0 ≤ 11 then (if 11 ≤ (t299.size : Int) then (if (t299.extract 0 11).toList = ([3, 0, 4, 1, 0, 1, 0, 1, 0, 1, 0] : List UInt8) then (if bt300.2.2.2.2.2 = 0 then (if (bt300.1 == 0 && (bt300.2.1 == 0 && (bt300.2.2.1 == 0 && (bt300.2.2.2.1 == 0)))) = true then (some (bt300.2.2.2.2.1.toList == (t299.extract 11 t299.size).toList)) else (some false)) else (some false)) else (some false)) else (none)) else (none)) else (some false)))) = some r := h
 clear h
 replace H := Option.bind_eq_some_iff.mp H
 obtain ⟨t299, A10, H⟩ := H
 replace H : ((token_Parse.f k t299).bind fun bt300 => (if (t299.size : Int) = 43 then (if 0 ≤ 11 then (if 11 ≤ (t299.size : Int) then (if (t299.extract 0 11).toList = ([3, 0, 4, 1, 0, 1, 0, 1, 0, 1, 0] : List UInt8) then (if bt300.2.2.2.2.2 = 0 then (if (bt300.1 == 0 && (bt300.2.1 == 0 && (bt300.2.2.1 == 0 && (bt300.2.2.2.1 == 0)))) = true then (some (bt300.2.2.2.2.1.toList == (t299.extract 11 t299.size).toList)) else (some false)) else (some false)) else (some false)) else (none)) else (none)) else (some false))) = some r := H
 have A1 := Aside0.mk A10
 clear A10
 replace H := Option.bind_eq_some_iff.mp H
 obtain ⟨⟨t300, t301, t302, t303, t304, t305⟩, A20, H⟩ := H
 replace H : (if (t299.size : Int) = 43 then (if 0 ≤ 11 then (if 11 ≤ (t299.size : Int) then (if (t299.extract 0 11).toList = ([3, 0, 4, 1, 0, 1, 0, 1, 0, 1, 0] : List UInt8) then (if t305 = 0 then (if (t300 == 0 && (t301 == 0 && (t302 == 0 && (t303 == 0)))) = true then (some (t304.toList == (t299.extract 11 t299.size).toList)) else (some false)) else (some false)) else (some false)) else (none)) else (none)) else (some false)) = some r := H
 have A2 := Aside0.mk A20
 clear A20
 by_cases c3 : (t299.size : Int) = 43
 ·rw [if_pos c3] at H
  have c3b0 : ((t299.size : Int) == 43) = true := beq_iff_eq.mpr c3
  have c3b1 : ((t299.size : Int) != 43) = false := bne_eq_false_iff_eq.mpr c3
  clear c3
  by_cases c4 : 0 ≤ 11
  ·rw [if_pos c4] at H
   have c4b0 := eq_true c4
   have c4b1 : decide (0 ≤ 11) = true := decide_eq_true c4
   clear c4
   by_cases c5 : 11 ≤ (t299.size : Int)
   ·rw [if_pos c5] at H
    have c5b0 := eq_true c5
    have c5b1 : decide (11 ≤ (t299.size : Int)) = true := decide_eq_true c5
    clear c5
    by_cases c6 : (t299.extract 0 11).toList = ([3, 0, 4, 1, 0, 1, 0, 1, 0, 1, 0] : List UInt8)
    ·rw [if_pos c6] at H
     have c6b0 : ((t299.extract 0 11).toList == ([3, 0, 4, 1, 0, 1, 0, 1, 0, 1, 0] : List UInt8)) = true := beq_iff_eq.mpr c6
     have c6b1 : ((t299.extract 0 11).toList != ([3, 0, 4, 1, 0, 1, 0, 1, 0, 1, 0] : List UInt8)) = false := bne_eq_false_iff_eq.mpr c6
     clear c6
     by_cases c7 : t305 = 0
     ·rw [if_pos c7] at H
      have c7b0 : (t305 == 0) = true := beq_iff_eq.mpr c7
      have c7b1 : (t305 != 0) = false := bne_eq_false_iff_eq.mpr c7
      clear c7
      by_cases c8 : (t300 == 0 && (t301 == 0 && (t302 == 0 && (t303 == 0)))) = true
      ·rw [if_pos c8] at H
       have c8b0 : (t300 == 0 && (t301 == 0 && (t302 == 0 && (t303 == 0)))) = true := c8
       (try (have c8b1 : decide (t300 = 0 && (t301 == 0 && (t302 == 0 && (t303 == 0)))) = true := by simpa using c8))
       (try (have c8b2 : (t300 == 0 && (t301 == 0 && (t302 == 0 && (t303 == 0)))) = true := by simpa using c8))
       obtain ⟨q0_, q1_, q2_, q3_⟩ : t300 = 0 ∧ t301 = 0 ∧ t302 = 0 ∧ t303 = 0 := by simpa using c8
       have q0a : (t300 == 0) = true := beq_iff_eq.mpr q0_
       have q0b : decide (t300 = 0) = true := decide_eq_true q0_
       have q0c : (t300 = 0) = True := eq_true q0_
       have q0d : (t300 != 0) = false := bne_eq_false_iff_eq.mpr q0_
       clear q0_
       have q1a : (t301 == 0) = true := beq_iff_eq.mpr q1_
       have q1b : decide (t301 = 0) = true := decide_eq_true q1_
       have q1c : (t301 = 0) = True := eq_true q1_
       have q1d : (t301 != 0) = false := bne_eq_false_iff_eq.mpr q1_
       clear q1_
       have q2a : (t302 == 0) = true := beq_iff_eq.mpr q2_
       have q2b : decide (t302 = 0) = true := decide_eq_true q2_
       have q2c : (t302 = 0) = True := eq_true q2_
       have q2d : (t302 != 0) = false := bne_eq_false_iff_eq.mpr q2_
       clear q2_
       have q3a : (t303 == 0) = true := beq_iff_eq.mpr q3_
       have q3b : decide (t303 = 0) = true := decide_eq_true q3_
       have q3c : (t303 = 0) = True := eq_true q3_
       have q3d : (t303 != 0) = false := bne_eq_false_iff_eq.mpr q3_
       clear q3_
       clear c8
       have c9b0 := eq_true (of_decide_eq_true (by first | (with_reducible assumption) | assumption) : 11 ≤ (t299.size : Int))
       obtain rfl := Option.some.inj H
       go_enter Tryd.func11, Tryd.ntmps11
       go_wp2_with (first | ((with_reducible refine gate_callee (f := 12) rfl ?_); refine goesL_ (some 6) rfl rfl Tryd.func12 (by kernel_rfl) rfl #[.string (⟨#[107]⟩ : ByteArray), .agg #[.int .i64 0, .int .i64 0, .int .i64 0, .int .i64 0]] rfl ag ?_; (with_reducible refine (token_Mint.calls k (⟨#[107]⟩ : ByteArray) 0 0 0 0 t299 _ A1.out).mono ?_); rintro e w10 ⟨rfl, hb⟩; refine ⟨_, rfl, ?_⟩; have n0_ := Aside0.mk (below_step bb hb); clear HB; have HB := n0_; clear n0_; (try clear hb); (try clear hb2); (try clear hk); (try clear hi)) | ((with_reducible refine gate_callee (f := 9) rfl ?_); refine goesL_ (some 9) rfl rfl Tryd.func9 (by kernel_rfl) rfl #[.string t299] rfl ag ?_; (with_reducible refine (token_Parse.calls k t299 t300 t301 t302 t303 t304 t305 _ A2.out).mono ?_); rintro e w11 ⟨rfl, hb⟩; refine ⟨_, rfl, ?_⟩; have n0_ := Aside0.mk (below_step bb hb); clear HB; have HB := n0_; clear n0_; (try clear hb); (try clear hb2); (try clear hk); (try clear hi)) | ((with_reducible refine gate_dst (N := 2) rfl ?_); refine box_event ?hg (N := 2) ?hd (cs := #[.int .i64 0, .int .i64 0, .int .i64 0, .int .i64 0]) (t := 23) ?hr ?_; (case hd => rfl); (case hg => rfl); (case hr => first | (go_simp; done) | (go_simp; rfl)); intro gb306 hg w12 hbox hb; have n0_ := Aside0.mk (below_step bb hb); have n1_ := Aside0.mk (hbox); have n2_ := Aside0.mk ((by rw [hg]; exact (below_size bb) : w.heap.size ≤ gb306)); have n3_ := Aside0.mk ((by rw [hg]; exact (below_size bb) : w.heap.size ≤ gb306)); clear HB; have HB := n0_; have BK306 := n1_; have GW306 := n2_; have GE306 := n3_; clear n0_ n1_ n2_ n3_; clear hb hbox hg; have hcz13_0 : w12.cell? ⟨gb306, 0, none⟩ = some (.int .i64 0) := (blk_cell BK306.out 0).trans rfl; have hcz13_1 : w12.cell? ⟨gb306, 1, none⟩ = some (.int .i64 0) := (blk_cell BK306.out 1).trans rfl; have hcz13_2 : w12.cell? ⟨gb306, 2, none⟩ = some (.int .i64 0) := (blk_cell BK306.out 2).trans rfl; have hcz13_3 : w12.cell? ⟨gb306, 3, none⟩ = some (.int .i64 0) := (blk_cell BK306.out 3).trans rfl; have hfz13_0 := blk_frozen BK306.out 0; have hfz13_1 := blk_frozen BK306.out 1; have hfz13_2 := blk_frozen BK306.out 2; have hfz13_3 := blk_frozen BK306.out 3))
       go_ret
       exact ⟨by first | rfl | (simp [errW_none, errW_some] <;> rfl) | (simp [*, errW_none, errW_some] <;> rfl), bb⟩
      ·rw [if_neg c8] at H
       have c8b0 : (t300 == 0 && (t301 == 0 && (t302 == 0 && (t303 == 0)))) = false := by simpa using c8
       (try (have c8b1 : decide (t300 = 0 && (t301 == 0 && (t302 == 0 && (t303 == 0)))) = false := by simpa using c8))
       (try (have c8b2 : (t300 == 0 && (t301 == 0 && (t302 == 0 && (t303 == 0)))) = false := by simpa using c8))
       (try (have c8b3 : ¬ (t300 = 0 && (t301 == 0 && (t302 == 0 && (t303 == 0)))) := by simpa using c8))
       clear c8
       obtain rfl := Option.some.inj H
       go_enter Tryd.func11, Tryd.ntmps11
       go_wp2_with (first | ((with_reducible refine gate_callee (f := 12) rfl ?_); refine goesL_ (some 6) rfl rfl Tryd.func12 (by kernel_rfl) rfl #[.string (⟨#[107]⟩ : ByteArray), .agg #[.int .i64 0, .int .i64 0, .int .i64 0, .int .i64 0]] rfl ag ?_; (with_reducible refine (token_Mint.calls k (⟨#[107]⟩ : ByteArray) 0 0 0 0 t299 _ A1.out).mono ?_); rintro e w14 ⟨rfl, hb⟩; refine ⟨_, rfl, ?_⟩; have n0_ := Aside0.mk (below_step bb hb); clear HB; have HB := n0_; clear n0_; (try clear hb); (try clear hb2); (try clear hk); (try clear hi)) | ((with_reducible refine gate_callee (f := 9) rfl ?_); refine goesL_ (some 9) rfl rfl Tryd.func9 (by kernel_rfl) rfl #[.string t299] rfl ag ?_; (with_reducible refine (token_Parse.calls k t299 t300 t301 t302 t303 t304 t305 _ A2.out).mono ?_); rintro e w15 ⟨rfl, hb⟩; refine ⟨_, rfl, ?_⟩; have n0_ := Aside0.mk (below_step bb hb); clear HB; have HB := n0_; clear n0_; (try clear hb); (try clear hb2); (try clear hk); (try clear hi)) | ((with_reducible refine gate_dst (N := 2) rfl ?_); refine box_event ?hg (N := 2) ?hd (cs := #[.int .i64 0, .int .i64 0, .int .i64 0, .int .i64 0]) (t := 23) ?hr ?_; (case hd => rfl); (case hg => rfl); (case hr => first | (go_simp; done) | (go_simp; rfl)); intro gb306 hg w16 hbox hb; have n0_ := Aside0.mk (below_step bb hb); have n1_ := Aside0.mk (hbox); have n2_ := Aside0.mk ((by rw [hg]; exact (below_size bb) : w.heap.size ≤ gb306)); have n3_ := Aside0.mk ((by rw [hg]; exact (below_size bb) : w.heap.size ≤ gb306)); clear HB; have HB := n0_; have BK306 := n1_; have GW306 := n2_; have GE306 := n3_; clear n0_ n1_ n2_ n3_; clear hb hbox hg; have hcz17_0 : w16.cell? ⟨gb306, 0, none⟩ = some (.int .i64 0) := (blk_cell BK306.out 0).trans rfl; have hcz17_1 : w16.cell? ⟨gb306, 1, none⟩ = some (.int .i64 0) := (blk_cell BK306.out 1).trans rfl; have hcz17_2 : w16.cell? ⟨gb306, 2, none⟩ = some (.int .i64 0) := (blk_cell BK306.out 2).trans rfl; have hcz17_3 : w16.cell? ⟨gb306, 3, none⟩ = some (.int .i64 0) := (blk_cell BK306.out 3).trans rfl; have hfz17_0 := blk_frozen BK306.out 0; have hfz17_1 := blk_frozen BK306.out 1; have hfz17_2 := blk_frozen BK306.out 2; have hfz17_3 := blk_frozen BK306.out 3))
       go_ret
       exact ⟨by first | rfl | (simp [errW_none, errW_some] <;> rfl) | (simp [*, errW_none, errW_some] <;> rfl), bb⟩
     ·rw [if_neg c7] at H
      have c7b0 : (t305 == 0) = false := beq_eq_false_iff_ne.mpr c7
      have c7b1 : (t305 != 0) = true := bne_iff_ne.mpr c7
      obtain rfl := Option.some.inj H
      go_enter Tryd.func11, Tryd.ntmps11
      go_wp2_with (first | ((with_reducible refine gate_callee (f := 12) rfl ?_); refine goesL_ (some 6) rfl rfl Tryd.func12 (by kernel_rfl) rfl #[.string (⟨#[107]⟩ : ByteArray), .agg #[.int .i64 0, .int .i64 0, .int .i64 0, .int .i64 0]] rfl ag ?_; (with_reducible refine (token_Mint.calls k (⟨#[107]⟩ : ByteArray) 0 0 0 0 t299 _ A1.out).mono ?_); rintro e w18 ⟨rfl, hb⟩; refine ⟨_, rfl, ?_⟩; have n0_ := Aside0.mk (below_step bb hb); clear HB; have HB := n0_; clear n0_; (try clear hb); (try clear hb2); (try clear hk); (try clear hi)) | ((with_reducible refine gate_callee (f := 9) rfl ?_); refine goesL_ (some 9) rfl rfl Tryd.func9 (by kernel_rfl) rfl #[.string t299] rfl ag ?_; (with_reducible refine (token_Parse.calls k t299 t300 t301 t302 t303 t304 t305 _ A2.out).mono ?_); rintro e w19 ⟨rfl, hb⟩; refine ⟨_, rfl, ?_⟩; have n0_ := Aside0.mk (below_step bb hb); clear HB; have HB := n0_; clear n0_; (try clear hb); (try clear hb2); (try clear hk); (try clear hi)) | ((with_reducible refine gate_dst (N := 2) rfl ?_); refine box_event ?hg (N := 2) ?hd (cs := #[.int .i64 0, .int .i64 0, .int .i64 0, .int .i64 0]) (t := 23) ?hr ?_; (case hd => rfl); (case hg => rfl); (case hr => first | (go_simp; done) | (go_simp; rfl)); intro gb306 hg w20 hbox hb; have n0_ := Aside0.mk (below_step bb hb); have n1_ := Aside0.mk (hbox); have n2_ := Aside0.mk ((by rw [hg]; exact (below_size bb) : w.heap.size ≤ gb306)); have n3_ := Aside0.mk ((by rw [hg]; exact (below_size bb) : w.heap.size ≤ gb306)); clear HB; have HB := n0_; have BK306 := n1_; have GW306 := n2_; have GE306 := n3_; clear n0_ n1_ n2_ n3_; clear hb hbox hg; have hcz21_0 : w20.cell? ⟨gb306, 0, none⟩ = some (.int .i64 0) := (blk_cell BK306.out 0).trans rfl; have hcz21_1 : w20.cell? ⟨gb306, 1, none⟩ = some (.int .i64 0) := (blk_cell BK306.out 1).trans rfl; have hcz21_2 : w20.cell? ⟨gb306, 2, none⟩ = some (.int .i64 0) := (blk_cell BK306.out 2).trans rfl; have hcz21_3 : w20.cell? ⟨gb306, 3, none⟩ = some (.int .i64 0) := (blk_cell BK306.out 3).trans rfl; have hfz21_0 := blk_frozen BK306.out 0; have hfz21_1 := blk_frozen BK306.out 1; have hfz21_2 := blk_frozen BK306.out 2; have hfz21_3 := blk_frozen BK306.out 3))
      go_ret
      exact ⟨by first | rfl | (simp [errW_none, errW_some] <;> rfl) | (simp [*, errW_none, errW_some] <;> rfl), bb⟩
    ·rw [if_neg c6] at H
     have c6b0 : ((t299.extract 0 11).toList == ([3, 0, 4, 1, 0, 1, 0, 1, 0, 1, 0] : List UInt8)) = false := beq_eq_false_iff_ne.mpr c6
     have c6b1 : ((t299.extract 0 11).toList != ([3, 0, 4, 1, 0, 1, 0, 1, 0, 1, 0] : List UInt8)) = true := bne_iff_ne.mpr c6
     obtain rfl := Option.some.inj H
     go_enter Tryd.func11, Tryd.ntmps11
     go_wp2_with (first | ((with_reducible refine gate_callee (f := 12) rfl ?_); refine goesL_ (some 6) rfl rfl Tryd.func12 (by kernel_rfl) rfl #[.string (⟨#[107]⟩ : ByteArray), .agg #[.int .i64 0, .int .i64 0, .int .i64 0, .int .i64 0]] rfl ag ?_; (with_reducible refine (token_Mint.calls k (⟨#[107]⟩ : ByteArray) 0 0 0 0 t299 _ A1.out).mono ?_); rintro e w22 ⟨rfl, hb⟩; refine ⟨_, rfl, ?_⟩; have n0_ := Aside0.mk (below_step bb hb); clear HB; have HB := n0_; clear n0_; (try clear hb); (try clear hb2); (try clear hk); (try clear hi)) | ((with_reducible refine gate_callee (f := 9) rfl ?_); refine goesL_ (some 9) rfl rfl Tryd.func9 (by kernel_rfl) rfl #[.string t299] rfl ag ?_; (with_reducible refine (token_Parse.calls k t299 t300 t301 t302 t303 t304 t305 _ A2.out).mono ?_); rintro e w23 ⟨rfl, hb⟩; refine ⟨_, rfl, ?_⟩; have n0_ := Aside0.mk (below_step bb hb); clear HB; have HB := n0_; clear n0_; (try clear hb); (try clear hb2); (try clear hk); (try clear hi)) | ((with_reducible refine gate_dst (N := 2) rfl ?_); refine box_event ?hg (N := 2) ?hd (cs := #[.int .i64 0, .int .i64 0, .int .i64 0, .int .i64 0]) (t := 23) ?hr ?_; (case hd => rfl); (case hg => rfl); (case hr => first | (go_simp; done) | (go_simp; rfl)); intro gb306 hg w24 hbox hb; have n0_ := Aside0.mk (below_step bb hb); have n1_ := Aside0.mk (hbox); have n2_ := Aside0.mk ((by rw [hg]; exact (below_size bb) : w.heap.size ≤ gb306)); have n3_ := Aside0.mk ((by rw [hg]; exact (below_size bb) : w.heap.size ≤ gb306)); clear HB; have HB := n0_; have BK306 := n1_; have GW306 := n2_; have GE306 := n3_; clear n0_ n1_ n2_ n3_; clear hb hbox hg; have hcz25_0 : w24.cell? ⟨gb306, 0, none⟩ = some (.int .i64 0) := (blk_cell BK306.out 0).trans rfl; have hcz25_1 : w24.cell? ⟨gb306, 1, none⟩ = some (.int .i64 0) := (blk_cell BK306.out 1).trans rfl; have hcz25_2 : w24.cell? ⟨gb306, 2, none⟩ = some (.int .i64 0) := (blk_cell BK306.out 2).trans rfl; have hcz25_3 : w24.cell? ⟨gb306, 3, none⟩ = some (.int .i64 0) := (blk_cell BK306.out 3).trans rfl; have hfz25_0 := blk_frozen BK306.out 0; have hfz25_1 := blk_frozen BK306.out 1; have hfz25_2 := blk_frozen BK306.out 2; have hfz25_3 := blk_frozen BK306.out 3))
     go_ret
     exact ⟨by first | rfl | (simp [errW_none, errW_some] <;> rfl) | (simp [*, errW_none, errW_some] <;> rfl), bb⟩
   ·rw [if_neg c5] at H
    exact absurd H (by simp)
  ·rw [if_neg c4] at H
   exact absurd H (by simp)
 ·rw [if_neg c3] at H
  have c3b0 : ((t299.size : Int) == 43) = false := beq_eq_false_iff_ne.mpr c3
  have c3b1 : ((t299.size : Int) != 43) = true := bne_iff_ne.mpr c3
  obtain rfl := Option.some.inj H
  go_enter Tryd.func11, Tryd.ntmps11
  go_wp2_with (first | ((with_reducible refine gate_callee (f := 12) rfl ?_); refine goesL_ (some 6) rfl rfl Tryd.func12 (by kernel_rfl) rfl #[.string (⟨#[107]⟩ : ByteArray), .agg #[.int .i64 0, .int .i64 0, .int .i64 0, .int .i64 0]] rfl ag ?_; (with_reducible refine (token_Mint.calls k (⟨#[107]⟩ : ByteArray) 0 0 0 0 t299 _ A1.out).mono ?_); rintro e w26 ⟨rfl, hb⟩; refine ⟨_, rfl, ?_⟩; have n0_ := Aside0.mk (below_step bb hb); clear HB; have HB := n0_; clear n0_; (try clear hb); (try clear hb2); (try clear hk); (try clear hi)) | ((with_reducible refine gate_callee (f := 9) rfl ?_); refine goesL_ (some 9) rfl rfl Tryd.func9 (by kernel_rfl) rfl #[.string t299] rfl ag ?_; (with_reducible refine (token_Parse.calls k t299 t300 t301 t302 t303 t304 t305 _ A2.out).mono ?_); rintro e w27 ⟨rfl, hb⟩; refine ⟨_, rfl, ?_⟩; have n0_ := Aside0.mk (below_step bb hb); clear HB; have HB := n0_; clear n0_; (try clear hb); (try clear hb2); (try clear hk); (try clear hi)) | ((with_reducible refine gate_dst (N := 2) rfl ?_); refine box_event ?hg (N := 2) ?hd (cs := #[.int .i64 0, .int .i64 0, .int .i64 0, .int .i64 0]) (t := 23) ?hr ?_; (case hd => rfl); (case hg => rfl); (case hr => first | (go_simp; done) | (go_simp; rfl)); intro gb306 hg w28 hbox hb; have n0_ := Aside0.mk (below_step bb hb); have n1_ := Aside0.mk (hbox); have n2_ := Aside0.mk ((by rw [hg]; exact (below_size bb) : w.heap.size ≤ gb306)); have n3_ := Aside0.mk ((by rw [hg]; exact (below_size bb) : w.heap.size ≤ gb306)); clear HB; have HB := n0_; have BK306 := n1_; have GW306 := n2_; have GE306 := n3_; clear n0_ n1_ n2_ n3_; clear hb hbox hg; have hcz29_0 : w28.cell? ⟨gb306, 0, none⟩ = some (.int .i64 0) := (blk_cell BK306.out 0).trans rfl; have hcz29_1 : w28.cell? ⟨gb306, 1, none⟩ = some (.int .i64 0) := (blk_cell BK306.out 1).trans rfl; have hcz29_2 : w28.cell? ⟨gb306, 2, none⟩ = some (.int .i64 0) := (blk_cell BK306.out 2).trans rfl; have hcz29_3 : w28.cell? ⟨gb306, 3, none⟩ = some (.int .i64 0) := (blk_cell BK306.out 3).trans rfl; have hfz29_0 := blk_frozen BK306.out 0; have hfz29_1 := blk_frozen BK306.out 1; have hfz29_2 := blk_frozen BK306.out 2; have hfz29_3 := blk_frozen BK306.out 3))
  go_ret
  exact ⟨by first | rfl | (simp [errW_none, errW_some] <;> rfl) | (simp [*, errW_none, errW_some] <;> rfl), bb⟩

end Go.Proofs.YtpbnfnaebdmagaaDoor.PT
namespace Go.Proofs.YtpbnfnaebdmagaaDoor.Tk
set_option linter.unusedVariables false
set_option linter.unusedSimpArgs false
open Go Go.RowKit Go.Proofs.YtpbnfnaebdmagaaDoor.Plain Go.Proofs.YtpbnfnaebdmagaaDoor.Vr Go.Proofs.YtpbnfnaebdmagaaDoor.Vs Go.Proofs.YtpbnfnaebdmagaaDoor.Rr Go.Proofs.YtpbnfnaebdmagaaDoor.Pv Go.Proofs.YtpbnfnaebdmagaaDoor.PT Go.Proofs.YtpbnfnaebdmagaaDoorW.PrintWords Go.Proofs.YtpbnfnaebdmagaaDoorW.PrintLast Go.Proofs.YtpbnfnaebdmagaaDoorW.PrintMore
abbrev i64 (n : Int) : Prop := -9223372036854775808 ≤ n ∧ n ≤ 9223372036854775807
def tokV (a b c d : Int) : V := ⟨2, 0, ⟨#[]⟩, [⟨0, a, ⟨#[]⟩, []⟩, ⟨0, b, ⟨#[]⟩, []⟩, ⟨0, c, ⟨#[]⟩, []⟩, ⟨0, d, ⟨#[]⟩, []⟩]⟩
def tokB (a b c d : Int) : ByteArray := (putV (tokV a b c d) 0).1
theorem tok_ok (a b c d : Int) : (putV (tokV a b c d) 0).2 = 0 := by
  unfold tokV
  simp [putV, putVs]
theorem tok_wf {a b c d : Int} (ha : i64 a) (hb : i64 b) (hc : i64 c) (hd : i64 d) : Wf (tokV a b c d) := by
  unfold tokV
  simp only [Wf, Wfs, and_true]
  exact ⟨by omega, ha, hb, hc, hd⟩
theorem tok_size (a b c d : Int) : (tokB a b c d).size ≤ 21000 := by
  have h1 := size_putV (tokV a b c d) 0
  have h2 : nodes (tokV a b c d) = 5 := by unfold tokV; simp only [nodes, nodess]
  unfold tokB
  omega
def mintR (key : ByteArray) (a b c d : Int) : ByteArray := tokB a b c d ++ Sha.tagK key (tokB a b c d)
theorem all_some {l : List V} (h : l.length < 2513169434916) : pack_All.f l = some (2, 0, ⟨#[]⟩, l) := by
  unfold pack_All.f pack_Value_39.f
  simp only [Option.bind_some, List.nil_append, List.length_nil]
  rw [if_pos (by omega), Option.bind_some]
theorem mint_some {key : ByteArray} {a b c d : Int} (hk : key.size ≤ 281474976710000) (ha : i64 a) (hb : i64 b) (hc : i64 c) (hd : i64 d) : ∃ K, ∀ k, K ≤ k → token_Mint.f k key a b c d = some (mintR key a b c d) := by
  have hs := tok_size a b c d
  have ht := Sha.tagK_size key (tokB a b c d)
  obtain ⟨K, hK⟩ := packPut_some (tokV a b c d) (tok_wf ha hb hc hd) (by unfold tokB at hs; omega)
  refine ⟨K, fun k hk' => ?_⟩
  have e := hK k hk'
  rw [tok_ok, if_pos rfl] at e
  have e' : Go.Proofs.YtpbnfnaebdmagaaDoor.PT.pack_Put.f k 2 0 ⟨#[]⟩ [⟨0, a, ⟨#[]⟩, []⟩, ⟨0, b, ⟨#[]⟩, []⟩, ⟨0, c, ⟨#[]⟩, []⟩, ⟨0, d, ⟨#[]⟩, []⟩] = some (tokB a b c d, 0) := e
  unfold token_Mint.f pack_Num.f
  simp only [Option.bind_some]
  rw [all_some (by simp)]
  simp only [Option.bind_some]
  rw [e', Option.bind_some]
  show ((mac_Tag.f key (tokB a b c d)).bind fun t => if (tokB a b c d).size + t.size ≤ 9223372036854775807 then some (tokB a b c d ++ t) else none) = _
  unfold mac_Tag.f
  rw [if_pos ⟨hk, by omega⟩, Option.bind_some, if_pos (by omega)]
  rfl
theorem mint_size (key : ByteArray) (a b c d : Int) : (mintR key a b c d).size = (tokB a b c d).size + 32 := by
  unfold mintR; rw [ByteArray.size_append, Sha.tagK_size]
theorem mint_head (key : ByteArray) (a b c d : Int) : (mintR key a b c d).extract 0 (tokB a b c d).size = tokB a b c d := by
  have e := cut_mid ByteArray.empty (tokB a b c d) (Sha.tagK key (tokB a b c d))
  rw [ByteArray.empty_append] at e
  unfold mintR
  simpa using e
theorem mint_tail (key : ByteArray) (a b c d : Int) : (mintR key a b c d).extract (tokB a b c d).size (mintR key a b c d).size = Sha.tagK key (tokB a b c d) := by
  have e := cut_mid (tokB a b c d) (Sha.tagK key (tokB a b c d)) ByteArray.empty
  rw [ByteArray.append_empty] at e
  rw [mint_size]
  rw [Sha.tagK_size] at e
  exact e
theorem getP_tok {a b c d : Int} (ha : i64 a) (hb : i64 b) (hc : i64 c) (hd : i64 d) : getP (tokB a b c d) = (0, Co.norm (tokV a b c d)) := by
  have e := Co.val_back (tokV a b c d) 0 20 (by omega) (by omega) (by omega) (tok_wf ha hb hc hd) (tok_ok a b c d) ByteArray.empty ByteArray.empty
  rw [ByteArray.empty_append, ByteArray.append_empty] at e
  have e' : valR mkV noV 20 (tokB a b c d) 0 0 = some (0, Co.norm (tokV a b c d), (0 : Int) + ((tokB a b c d).size : Int)) := e
  unfold getP
  rw [e']
  simp
theorem norm_tok (a b c d : Int) : Co.norm (tokV a b c d) = tokV a b c d := by simp [tokV, Co.norm, Co.norms]
theorem parse_mint (key : ByteArray) {a b c d : Int} (ha : i64 a) (hb : i64 b) (hc : i64 c) (hd : i64 d) (h0 : 0 ≤ a ∧ a ≤ 2147483647) (h1 : 0 ≤ b ∧ b ≤ 2147483647) : parseR (mintR key a b c d) = (a, b, c, d, Sha.tagK key (tokB a b c d), 0) := by
  have hz := mint_size key a b c d
  have hn : (mintR key a b c d).size - 32 = (tokB a b c d).size := by omega
  unfold parseR
  rw [if_neg (by omega), hn, mint_head, getP_tok ha hb hc hd]
  rw [norm_tok]
  show (if (0 : Int) = 0 then (if (2 : Int) = 2 then body (mintR key a b c d) [⟨0, a, ⟨#[]⟩, []⟩, ⟨0, b, ⟨#[]⟩, []⟩, ⟨0, c, ⟨#[]⟩, []⟩, ⟨0, d, ⟨#[]⟩, []⟩] else no6 4) else no6 0) = _
  rw [if_pos rfl, if_pos rfl, body4, hn, mint_tail]
  simp [h0, h1]
theorem tok_zero : tokB 0 0 0 0 = ⟨#[3, 0, 4, 1, 0, 1, 0, 1, 0, 1, 0]⟩ := by
  unfold tokB tokV
  simp only [putV, putVs]
  decide +kernel
theorem wakes_some : ∃ K, ∀ k, K ≤ k → precinctlaw09_wakes.f k = some true := by
  obtain ⟨K, hK⟩ := mint_some (key := ⟨#[107]⟩) (a := 0) (b := 0) (c := 0) (d := 0) (by decide) (by decide) (by decide) (by decide) (by decide)
  have hz := mint_size ⟨#[107]⟩ 0 0 0 0
  have h11 : (tokB 0 0 0 0).size = 11 := by rw [tok_zero]; rfl
  have hh := mint_head ⟨#[107]⟩ 0 0 0 0
  have ht := mint_tail ⟨#[107]⟩ 0 0 0 0
  rw [h11] at hz hh ht
  refine ⟨K + 1, fun k hk => ?_⟩
  obtain ⟨k, rfl⟩ : ∃ m, k = m + 1 := ⟨k - 1, by omega⟩
  unfold precinctlaw09_wakes.f
  rw [hK _ (by omega), Option.bind_some, parse_some _ (by omega), Option.bind_some, parse_mint ⟨#[107]⟩ (by decide) (by decide) (by decide) (by decide) (by decide) (by decide)]
  rw [if_pos (by omega), if_pos (by omega), if_pos (by omega), hh, if_pos (by rw [tok_zero, toList_data]), ht]
  simp
theorem mod31 (a : Int) (ha : i64 a) : 0 ≤ (mx 0 a) % 2147483648 ∧ (mx 0 a) % 2147483648 ≤ 2147483647 := by
  have : 0 ≤ mx 0 a := by unfold mx; split <;> omega
  omega
end Go.Proofs.YtpbnfnaebdmagaaDoor.Tk
