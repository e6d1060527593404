/-
  The document's Value of a workflow, walked.
-/
import Derived.Test.YtjicfkmpgogppaaH1
import Derived.LoopTactic
import Derived.Outline
import Derived.WalkSmall
namespace Go.Proofs.Ytjicfkmpgogppaa.Vw
set_option linter.unusedVariables false
set_option linter.unusedSimpArgs false
open Go Go.RowKit Go.Proofs.Ytjicfkmpgogppaa.Plain Go.Proofs.Ytjicfkmpgogppaa.Vs Go.Proofs.Ytjicfkmpgogppaa.PA Go.Proofs.YtjicfkmpgogppaaW.PrintWords Go.Proofs.YtjicfkmpgogppaaW.PrintLast Go.Proofs.YtjicfkmpgogppaaW.PrintMore
abbrev B_ := S125
abbrev E0 : ByteArray := ⟨#[]⟩
def strW (s : ByteArray) : W := ⟨1, 0, s, []⟩
def numW (n : Int) : W := ⟨0, n, E0, []⟩
def allW (l : List W) : W := ⟨2, 0, E0, l⟩
def nodeW (x : B_) : W := allW [strW x.f0, allW (x.f1.map strW), numW x.f2, numW x.f3, numW x.f4, strW x.f5]
def Bl (a b : World) : Prop := Below a.heap.size a b
theorem Bl.trans {a b c : World} (h : Bl a b) (k : Bl b c) : Bl a c := below_then h h.size k
theorem Bl.alloc {a b : World} (h : Bl a b) (o : Obj) : Bl a (b.alloc o) := below_alloc h o
theorem row_of {W1 : World} {g : Nat} {cs : Array Value} (h : W1.heap[g]? = some (.cells cs 57 (0, 0))) (xs : List W) (hn : xs.length ≤ 1000000)
    (hk : ∀ j x, xs[j]? = some x → ∃ A c, x.f3.length ≤ c ∧ Kd.C k57 W1 A x.f3.length x.f3 ∧ cs[j * 4 + 0]? = some (.int .i64 x.f0) ∧ cs[j * 4 + 1]? = some (.int .i64 x.f1) ∧ cs[j * 4 + 2]? = some (.string x.f2) ∧ cs[j * 4 + 3]? = some (.slice A x.f3.length c)) : Kd.C k57 W1 (some ⟨g, 0, none⟩) xs.length xs := by
  have hadd : ∀ n : Nat, (⟨g, 0, none⟩ : Addr).add n = ⟨g, n, none⟩ := fun n => by unfold Addr.add; split <;> simp_all
  refine ⟨rfl, by omega, fun _ => ⟨⟨g, 0, none⟩, rfl, fun j p hj => ?_⟩⟩
  obtain ⟨A, c, hc, hC, h0, h1, h2, h3⟩ := hk j p hj
  refine ⟨_, rfl, k57_mk W1 p hc hC, fun i u hi => ?_⟩
  rw [hadd, blk_cell h]
  match i, hi with
  | 0, hi => exact h0.trans hi
  | 1, hi => exact h1.trans hi
  | 2, hi => exact h2.trans hi
  | 3, hi => exact h3.trans hi
  | i + 4, hi => simp at hi
/-- a row that lies in one block, with what its values lead to: told by what is ok -/
theorem foot_of {W1 : World} {g : Nat} {cs : Array Value} (ok : Nat → Prop) (hg : ok g) (h : W1.heap[g]? = some (.cells cs 57 (0, 0))) (xs : List W) (hn : xs.length ≤ 1000000)
    (hk : ∀ j x, xs[j]? = some x → ∃ A c, x.f3.length ≤ c ∧ Kd.F k57 W1 ok A x.f3.length x.f3 ∧ cs[j * 4 + 0]? = some (.int .i64 x.f0) ∧ cs[j * 4 + 1]? = some (.int .i64 x.f1) ∧ cs[j * 4 + 2]? = some (.string x.f2) ∧ cs[j * 4 + 3]? = some (.slice A x.f3.length c)) : Kd.F k57 W1 ok (some ⟨g, 0, none⟩) xs.length xs := by
  intro W2 hW
  refine row_of ((hW g hg (blk_lt h)).trans h) xs hn (fun j x hj => ?_)
  obtain ⟨A, c, hc, hF, r⟩ := hk j x hj
  exact ⟨A, c, hc, hF W2 hW, r⟩
set_option maxHeartbeats 400000 in
theorem str_walk (s : ByteArray) (w : World) : Calls Try.prog 65 #[.string s] w fun e w' => e = .returned (.agg #[.int .i64 1, .int .i64 0, .string s, .slice none 0 0]) ∧ Bl w w' := by
  have hu := Try.underlying57
  go_enter Try.func65, Try.ntmps65
  go_wp2
  refine bodyPost_ret (results_single Try.results65 (.cell w.heap.size 57 #[.int .i64 1, .int .i64 0, .string s, .slice none 0 0] (0, 0) _ rfl (blk_new _ _) hu rfl (by kernel_rfl) .nil)) rfl ⟨rfl, below_alloc (Below.refl _ _) _⟩
set_option maxHeartbeats 400000 in
theorem num_walk (n : Int) (w : World) : Calls Try.prog 67 #[.int .i64 n] w fun e w' => e = .returned (.agg #[.int .i64 0, .int .i64 n, .string E0, .slice none 0 0]) ∧ Bl w w' := by
  have hu := Try.underlying57
  go_enter Try.func67, Try.ntmps67
  go_wp2
  refine bodyPost_ret (results_single Try.results67 (.cell w.heap.size 57 #[.int .i64 0, .int .i64 n, .string E0, .slice none 0 0] (0, 0) _ rfl (blk_new _ _) hu rfl (by kernel_rfl) .nil)) rfl ⟨rfl, below_alloc (Below.refl _ _) _⟩
set_option maxHeartbeats 400000 in
theorem list_walk (A : Option Addr) (n c : Nat) (w : World) : Calls Try.prog 66 #[.slice A n c] w fun e w' => e = .returned (.agg #[.int .i64 2, .int .i64 0, .string E0, .slice A n c]) ∧ Bl w w' := by
  have hu := Try.underlying57
  go_enter Try.func66, Try.ntmps66
  go_wp2
  refine bodyPost_ret (results_single Try.results66 (.cell w.heap.size 57 #[.int .i64 2, .int .i64 0, .string E0, .slice A n c] (0, 0) _ rfl (blk_new _ _) hu rfl (by kernel_rfl) .nil)) rfl ⟨rfl, below_alloc (Below.refl _ _) _⟩
/-- where the function's variables lie -/
structure Env (w wr : World) (nm : ByteArray) (A : Option Addr) (n c g1 g2 : Nat) : Prop where
  HB : Below w.heap.size w wr
  B1 : wr.heap[g1]? = some (.cells #[.string nm, .slice A n c] 30 (0, 0))
  B2 : wr.heap[g2]? = some (.cells #[.int .i64 0, .int .i64 0, .string E0, .slice none 0 0] 57 (0, 0))
theorem Env.go {w wr w1 : World} {nm : ByteArray} {A : Option Addr} {n c g1 g2 : Nat} (h : Env w wr nm A n c g1 g2) (hb : Bl wr w1) : Env w w1 nm A n c g1 g2 := ⟨below_then h.HB h.HB.size hb, blk_below h.B1 hb, blk_below h.B2 hb⟩
theorem Env.grown {w wr w1 : World} {nm : ByteArray} {A : Option Addr} {n c g1 g2 : Nat} {row : Option Nat} (h : Env w wr nm A n c g1 g2) (hb : Below w.heap.size w w1) (hg : wr.grownBy w1 row) (hn : ∀ k, row = some k → g1 < k ∧ g2 < k) : Env w w1 nm A n c g1 g2 := ⟨hb, blk_grown h.B1 hg (fun e => by have := hn _ e.symm; omega), blk_grown h.B2 hg (fun e => by have := hn _ e.symm; omega)⟩
theorem at1 {w : World} {A : Option Addr} {n : Nat} {xs : List B_} (h : Kd.C k125 w A n xs) (i : Nat) (h1 : i < n) (hl : i < xs.length) : ∃ ad A1 c1, A = some ad ∧ w.cell? (ad.add (i * 6)) = some (.string xs[i].f0) ∧ w.cell? ⟨(ad.add (i * 6)).block, (ad.add (i * 6)).off + 1, none⟩ = some (.slice A1 xs[i].f1.length c1) ∧ w.cell? ⟨(ad.add (i * 6)).block, (ad.add (i * 6)).off + 2, none⟩ = some (.int .i64 xs[i].f2) ∧ w.cell? ⟨(ad.add (i * 6)).block, (ad.add (i * 6)).off + 3, none⟩ = some (.int .i64 xs[i].f3) ∧ w.cell? ⟨(ad.add (i * 6)).block, (ad.add (i * 6)).off + 4, none⟩ = some (.int .i64 xs[i].f4) ∧ w.cell? ⟨(ad.add (i * 6)).block, (ad.add (i * 6)).off + 5, none⟩ = some (.string xs[i].f5) ∧ xs[i].f1.length ≤ c1 ∧ Kd.C Kd.string w A1 xs[i].f1.length xs[i].f1 := by
  obtain ⟨ad, A1, c1, e, x⟩ := at_T125 h (i : Int) (by omega) (by omega)
  have hr : rd_T125 xs (i : Int) = xs[i] := by
    unfold rd_T125
    rw [Int.toNat_natCast, List.getD_eq_getElem?_getD, List.getElem?_eq_getElem hl]; rfl
  rw [hr, Int.toNat_natCast] at x
  exact ⟨ad, A1, c1, e, x⟩
def Post (w : World) (l : List W) (e : Ending) (w' : World) : Prop := ∃ u, e = .returned (.agg #[.int .i64 2, .int .i64 0, .string E0, u]) ∧ Kd.V k57 57 w' w.heap.size (fun k => w.heap.size ≤ k) u l ∧ Below w.heap.size w w'
set_option maxHeartbeats 8000000 in
set_option maxRecDepth 100000 in
theorem value_walk (nm : ByteArray) (l : List B_) (A : Option Addr) (c : Nat) (w : World) (hC : Kd.C k125 w A l.length l) (hlen : l.length ≤ 1000000) (hdep : ∀ x ∈ l, x.f1.length ≤ 1000000) :
    Calls Try.prog 26 #[.agg #[.string nm, .slice A l.length c]] w (Post w [strW nm, allW (l.map nodeW)]) := by
  have hu1 := Try.underlying57
  have hu2 := Try.underlying30
  have hu3 := Try.underlying125
  have HC := Aside0.mk hC
  have HD := Aside0.mk hdep
  clear hC hdep
  go_enter Try.func26, Try.ntmps26
  go_upto_region 1 with fail
  have hsz1 : (w.alloc (.cells #[.string nm, .slice A l.length c] 30)).heap.size = w.heap.size + 1 := Array.size_push _
  have hE := (show Env w ((w.alloc (.cells #[.string nm, .slice A l.length c] 30)).alloc (.cells #[.int .i64 0, .int .i64 0, .string E0, .slice none 0 0] 57)) nm A l.length c w.heap.size (w.heap.size + 1) from
    ⟨below_alloc (below_alloc (Below.refl _ _) _) _, blk_alloc (blk_new w _) _, by rw [← hsz1]; exact blk_new _ _⟩)
  clear hsz1
  generalize (w.alloc (.cells #[.string nm, .slice A l.length c] 30)).alloc (.cells #[.int .i64 0, .int .i64 0, .string E0, .slice none 0 0] 57) = w3 at hE ⊢
  obtain ⟨g1, hG1⟩ : ∃ g, w.heap.size = g := ⟨_, rfl⟩
  obtain ⟨g2, hG2⟩ : ∃ g, g1 + 1 = g := ⟨_, rfl⟩
  rw [hG1, hG2] at hE ⊢
  have gt1 : w.heap.size ≤ g1 := Nat.le_of_eq hG1
  have gt2 : g1 < g2 := by omega
  have HE := Aside0.mk hE
  clear hG1 hG2 hE
  go_wp2
  go_loopw [3, 4] (fun v3 v4 wr => ∃ (i : Nat), v4 = .int .i64 (i : Int) ∧ i ≤ l.length ∧ Aside0 (Env w wr nm A l.length c g1 g2) ∧ Aside0 (Kd.N k57 57 wr w.heap.size (fun k => g2 < k) v3 ((l.take i).map nodeW))) (fun _ v4 _ => l.length - (intOf v4).toNat)
  case atStart => exact ⟨0, rfl, Nat.zero_le _, HE, ⟨Kd.N_nil _ _ _ _ _⟩⟩
  case round =>
    clear HE
    obtain ⟨i, rfl, hi, HE, HN⟩ := hrel
    have c11 : wr.cell? ⟨g1, 1, none⟩ = some (.slice A l.length c) := (blk_cell HE.out.B1 1).trans rfl
    by_cases hlt : i < l.length
    · obtain ⟨ad, A1, c1, e, z0, z1, z2, z3, z4, z5, lz, gz⟩ := at1 HC.out i hlt hlt
      cases e
      have HI := Aside0.mk hlt
      have hli : (i : Int) < (l.length : Int) := by omega
      have hi0 : (0 : Int) ≤ (i : Int) := by omega
      have hlx := HD.out l[i] (List.getElem_mem hlt)
      have HTM := Aside0.mk (show (l.take i).map nodeW ++ [nodeW l[i]] = (l.take (i + 1)).map nodeW by rw [List.take_succ_eq_append_getElem hlt, List.map_append]; rfl)
      have HLN := Aside0.mk (show ((l.take i).map nodeW).length ≤ 1000000 by rw [List.length_map, List.length_take]; omega)
      generalize l[i] = x at z0 z1 z2 z3 z4 z5 lz gz hlx HTM
      replace z0 := (HE.out.HB.cell (World.block_lt_of_cell? w _ z0)).trans z0
      replace z1 := (HE.out.HB.cell (World.block_lt_of_cell? w _ z1)).trans z1
      replace z2 := (HE.out.HB.cell (World.block_lt_of_cell? w _ z2)).trans z2
      replace z3 := (HE.out.HB.cell (World.block_lt_of_cell? w _ z3)).trans z3
      replace z4 := (HE.out.HB.cell (World.block_lt_of_cell? w _ z4)).trans z4
      replace z5 := (HE.out.HB.cell (World.block_lt_of_cell? w _ z5)).trans z5
      have HT := Aside0.mk gz
      clear gz lz
      obtain ⟨x0, xd, x2, x3, x4, x5⟩ := x
      simp only at z0 z1 z2 z3 z4 z5 hlx HT
      go_upto_region 6 with fail
      have hbl : Bl wr (wr.alloc (.cells #[.string x0, .slice A1 xd.length c1, .int .i64 x2, .int .i64 x3, .int .i64 x4, .string x5] 125)) := below_alloc (Below.refl _ _) _
      have hE0 := HE.out.go hbl
      have hbn := blk_new wr (.cells #[.string x0, .slice A1 xd.length c1, .int .i64 x2, .int .i64 x3, .int .i64 x4, .string x5] 125)
      have hN0 := Kd.N_alloc (Kd.N_bound HN.out) (.cells #[.string x0, .slice A1 xd.length c1, .int .i64 x2, .int .i64 x3, .int .i64 x4, .string x5] 125)
      have gtn : g2 < wr.heap.size := blk_lt HE.out.B2
      clear z0 z1 z2 z3 z4 z5 c11 HE HN hbl
      generalize wr.alloc (.cells #[.string x0, .slice A1 xd.length c1, .int .i64 x2, .int .i64 x3, .int .i64 x4, .string x5] 125) = w4 at hE0 hbn hN0 ⊢
      generalize wr.heap.size = gn at hbn hN0 gtn ⊢
      have HE := Aside0.mk hE0
      have HBN := Aside0.mk hbn
      have HN := Aside0.mk hN0
      clear hE0 hbn hN0
      go_wp2
      go_loopw [6, 7] (fun v6 v7 wr => ∃ (j : Nat), v7 = .int .i64 (j : Int) ∧ j ≤ xd.length ∧ Aside0 (Env w wr nm (some ad) l.length c g1 g2) ∧ Aside0 (wr.heap[gn]? = some (.cells #[.string x0, .slice A1 xd.length c1, .int .i64 x2, .int .i64 x3, .int .i64 x4, .string x5] 125 (0, 0))) ∧ Aside0 (Kd.N k57 57 wr w.heap.size (fun k => g2 < k ∧ k < gn) u3 ((l.take i).map nodeW)) ∧ Aside0 (Kd.N k57 57 wr w.heap.size (fun k => gn < k) v6 ((xd.take j).map strW))) (fun _ v7 _ => xd.length - (intOf v7).toNat)
      case atStart => exact ⟨0, rfl, Nat.zero_le _, HE, HBN, HN, ⟨Kd.N_nil _ _ _ _ _⟩⟩
      case round =>
        clear HE HBN HN
        obtain ⟨j, rfl, hj, HE, HBN, HN, HDR⟩ := hrel
        have n1 : wr.cell? ⟨gn, 1, none⟩ = some (.slice A1 xd.length c1) := (blk_cell HBN.out 1).trans rfl
        by_cases hjl : j < xd.length
        · obtain ⟨ag, e, y0⟩ := Kd.at_string HT.out (j : Int) (by omega) (by omega)
          cases e
          have hjli : (j : Int) < (xd.length : Int) := by omega
          have hj0 : (0 : Int) ≤ (j : Int) := by omega
          have HJ := Aside0.mk hjl
          have hy : rdOf ByteArray.empty xd (j : Int) = xd[j] := by
            unfold rdOf
            rw [Int.toNat_natCast, List.getD_eq_getElem?_getD, List.getElem?_eq_getElem hjl]; rfl
          rw [hy, Int.toNat_natCast] at y0
          clear hy
          have HTS := Aside0.mk (show (xd.take j).map strW ++ [strW xd[j]] = (xd.take (j + 1)).map strW by rw [List.take_succ_eq_append_getElem hjl, List.map_append]; rfl)
          have hlm : ((xd.take j).map strW).length ≤ 1000000 := by rw [List.length_map, List.length_take]; omega
          have HLM := Aside0.mk hlm
          clear hlm
          generalize xd[j] = s at y0 HTS
          replace y0 := (HE.out.HB.cell (World.block_lt_of_cell? w _ y0)).trans y0
          go_upto_region 11 with (go_at_call 65; go_loud ((with_reducible refine (str_walk _ _).mono ?_); rintro e wq ⟨rfl, hq⟩))
          have hbl : Bl wr (wq.alloc (.cells #[.int .i64 1, .int .i64 0, .string s, .slice none 0 0] 57)) := hq.alloc _
          have hE0 := HE.out.go hbl
          have hbn := blk_below HBN.out hbl
          have hN0 := Kd.N_below HN.out hbl
          have hD0 := Kd.N_below HDR.out hbl
          have hbt := blk_new wq (.cells #[.int .i64 1, .int .i64 0, .string s, .slice none 0 0] 57)
          have hgt : gn < wq.heap.size := Nat.lt_of_lt_of_le (blk_lt HBN.out) hq.size
          clear y0 n1 hq hbl HE HBN HN HDR
          generalize wq.alloc (.cells #[.int .i64 1, .int .i64 0, .string s, .slice none 0 0] 57) = w5 at hE0 hbn hN0 hD0 hbt ⊢
          generalize wq.heap.size = gt at hbt hgt ⊢
          have HE := Aside0.mk hE0
          have HBN := Aside0.mk hbn
          have HN := Aside0.mk hN0
          have HDR := Aside0.mk hD0
          have t0 : w5.cell? ⟨gt, 0, none⟩ = some (.int .i64 1) := (blk_cell hbt 0).trans rfl
          have t1 : w5.cell? ⟨gt, 1, none⟩ = some (.int .i64 0) := (blk_cell hbt 1).trans rfl
          have t2 : w5.cell? ⟨gt, 2, none⟩ = some (.string s) := (blk_cell hbt 2).trans rfl
          have t3 : w5.cell? ⟨gt, 3, none⟩ = some (.slice none 0 0) := (blk_cell hbt 3).trans rfl
          have HGN := Aside0.mk (show ∀ k, w5.heap.size ≤ k → gn < k from fun k hk => by have := blk_lt hbn; omega)
          clear hE0 hbn hN0 hD0 hbt
          have HLM2 := HLM.out
          have hlm2 : (((xd.take j).map strW).length + 1) * 56 ≤ 140737488355328 := by omega
          have HLM3 := Aside0.mk hlm2
          clear HLM2 hlm2
          go_wp2_with ((with_reducible refine gate_builtin (b := .append) (xs := #[.tmp 43, .tmp 45]) rfl ?_); at_builtin; refine Kd.N_append k57 (w0 := w) w.heap.size rfl (.tmp 43) (.tmp 45) 55 57 (.agg #[(.int .i64 0), (.int .i64 0), (.string ⟨#[]⟩), (.slice none 0 0)]) 56 rfl Try.underlying55 info57 rfl (by decide) (by omega) _ ((xd.take j).map strW) (strW s) [.int .i64 1, .int .i64 0, .string s, .slice none 0 0] (fun k => gn < k) (fun _ => False) rfl rfl (k57_mkF _ _ (strW s) (Nat.le_refl _) (Kd.F_nil _ _ _)) (fun k hk => hk.elim) HGN.out HDR.out HE.out.HB HE.out.HB.size HLM3.out ?_; intro v9 w9 hD9 hb9 hg9 hat9; rw [HTS.out] at hD9; have hrw := HDR.out.1; have hE9 := Aside0.mk (HE.out.grown hb9 hg9 (fun k hk => by have := hrw k hk; omega)); have hbn9 := Aside0.mk (blk_grown HBN.out hg9 (fun e => by have := hrw _ e.symm; omega)); have hN9 := Aside0.mk (Kd.N_grown HN.out hg9 (fun k hk e => by have := hrw _ e.symm; have := hk.2; omega)); have HD9 := Aside0.mk hD9; clear hD9 hb9 hg9 hat9 hrw)
          go_roundw
          case rel => exact ⟨j + 1, by go_num, by have := HJ.out; omega, hE9, hbn9, hN9, HD9⟩
          case measure => simp [intOf]; have := HJ.out; omega
        · obtain rfl : j = xd.length := by omega
          have hge : ¬ ((xd.length : Int) < (xd.length : Int)) := by omega
          have hD0 := HDR.out
          rw [List.take_of_length_le (Nat.le_refl _)] at hD0
          obtain ⟨A6, c6, e6⟩ := Kd.N_slice hD0
          subst e6
          generalize hdl : xd.map strW = dl at hD0 ⊢
          have HDL := Aside0.mk hdl
          clear hdl
          have HE0 := HE
          have HD0 := Aside0.mk hD0
          clear hD0
          go_upto_region 12 with fail
          have hB0 : Bl wr wr := Below.refl _ _
          have HB0 := Aside0.mk hB0
          clear hB0
          have nf : wr.cell? ⟨gn, 0, none⟩ = some (.string x0) := (blk_cell (blk_below HBN.out HB0.out) 0).trans rfl
          go_upto_region 13 with (go_at_call 65; go_loud ((with_reducible refine (str_walk _ _).mono ?_); rintro e wq ⟨rfl, hq⟩))
          have hbl : Bl wr (wq.alloc (.cells #[.int .i64 1, .int .i64 0, .string x0, .slice none 0 0] 57)) := hq.alloc _
          have hb9 := blk_new wq (.cells #[.int .i64 1, .int .i64 0, .string x0, .slice none 0 0] 57)
          have hB1 := Bl.trans HB0.out hbl
          have gt9_ : gn < wq.heap.size := Nat.lt_of_lt_of_le (blk_lt (blk_below HBN.out HB0.out)) hq.size
          clear nf hq hbl HB0
          generalize wq.alloc (.cells #[.int .i64 1, .int .i64 0, .string x0, .slice none 0 0] 57) = w20 at hb9 hB1 ⊢
          generalize wq.heap.size = q9 at hb9 gt9_ ⊢
          have HB0 := Aside0.mk hB1
          have HX9 := Aside0.mk hb9
          clear hB1 hb9
          go_upto_region 14 with (go_at_call 66; go_loud ((with_reducible refine (list_walk _ _ _ _).mono ?_); rintro e wq ⟨rfl, hq⟩))
          have hbl : Bl w20 (wq.alloc (.cells #[.int .i64 2, .int .i64 0, .string E0, .slice A6 dl.length c6] 57)) := hq.alloc _
          have hb10 := blk_new wq (.cells #[.int .i64 2, .int .i64 0, .string E0, .slice A6 dl.length c6] 57)
          have hB1 := Bl.trans HB0.out hbl
          have hb9 := blk_below HX9.out hbl
          have gt10_ : gn < wq.heap.size := Nat.lt_of_lt_of_le (blk_lt (blk_below HBN.out HB0.out)) hq.size
          clear hq hbl HB0 HX9
          generalize wq.alloc (.cells #[.int .i64 2, .int .i64 0, .string E0, .slice A6 dl.length c6] 57) = w21 at hb10 hB1 hb9 ⊢
          generalize wq.heap.size = q10 at hb10 gt10_ ⊢
          have HB0 := Aside0.mk hB1
          have HX9 := Aside0.mk hb9
          have HX10 := Aside0.mk hb10
          clear hB1 hb9 hb10
          have nf : w21.cell? ⟨gn, 2, none⟩ = some (.int .i64 x2) := (blk_cell (blk_below HBN.out HB0.out) 2).trans rfl
          go_upto_region 15 with (go_at_call 67; go_loud ((with_reducible refine (num_walk _ _).mono ?_); rintro e wq ⟨rfl, hq⟩))
          have hbl : Bl w21 (wq.alloc (.cells #[.int .i64 0, .int .i64 x2, .string E0, .slice none 0 0] 57)) := hq.alloc _
          have hb11 := blk_new wq (.cells #[.int .i64 0, .int .i64 x2, .string E0, .slice none 0 0] 57)
          have hB1 := Bl.trans HB0.out hbl
          have hb9 := blk_below HX9.out hbl
          have hb10 := blk_below HX10.out hbl
          have gt11_ : gn < wq.heap.size := Nat.lt_of_lt_of_le (blk_lt (blk_below HBN.out HB0.out)) hq.size
          clear nf hq hbl HB0 HX9 HX10
          generalize wq.alloc (.cells #[.int .i64 0, .int .i64 x2, .string E0, .slice none 0 0] 57) = w22 at hb11 hB1 hb9 hb10 ⊢
          generalize wq.heap.size = q11 at hb11 gt11_ ⊢
          have HB0 := Aside0.mk hB1
          have HX9 := Aside0.mk hb9
          have HX10 := Aside0.mk hb10
          have HX11 := Aside0.mk hb11
          clear hB1 hb9 hb10 hb11
          have nf : w22.cell? ⟨gn, 3, none⟩ = some (.int .i64 x3) := (blk_cell (blk_below HBN.out HB0.out) 3).trans rfl
          go_upto_region 16 with (go_at_call 67; go_loud ((with_reducible refine (num_walk _ _).mono ?_); rintro e wq ⟨rfl, hq⟩))
          have hbl : Bl w22 (wq.alloc (.cells #[.int .i64 0, .int .i64 x3, .string E0, .slice none 0 0] 57)) := hq.alloc _
          have hb12 := blk_new wq (.cells #[.int .i64 0, .int .i64 x3, .string E0, .slice none 0 0] 57)
          have hB1 := Bl.trans HB0.out hbl
          have hb9 := blk_below HX9.out hbl
          have hb10 := blk_below HX10.out hbl
          have hb11 := blk_below HX11.out hbl
          have gt12_ : gn < wq.heap.size := Nat.lt_of_lt_of_le (blk_lt (blk_below HBN.out HB0.out)) hq.size
          clear nf hq hbl HB0 HX9 HX10 HX11
          generalize wq.alloc (.cells #[.int .i64 0, .int .i64 x3, .string E0, .slice none 0 0] 57) = w23 at hb12 hB1 hb9 hb10 hb11 ⊢
          generalize wq.heap.size = q12 at hb12 gt12_ ⊢
          have HB0 := Aside0.mk hB1
          have HX9 := Aside0.mk hb9
          have HX10 := Aside0.mk hb10
          have HX11 := Aside0.mk hb11
          have HX12 := Aside0.mk hb12
          clear hB1 hb9 hb10 hb11 hb12
          have nf : w23.cell? ⟨gn, 4, none⟩ = some (.int .i64 x4) := (blk_cell (blk_below HBN.out HB0.out) 4).trans rfl
          go_upto_region 17 with (go_at_call 67; go_loud ((with_reducible refine (num_walk _ _).mono ?_); rintro e wq ⟨rfl, hq⟩))
          have hbl : Bl w23 (wq.alloc (.cells #[.int .i64 0, .int .i64 x4, .string E0, .slice none 0 0] 57)) := hq.alloc _
          have hb13 := blk_new wq (.cells #[.int .i64 0, .int .i64 x4, .string E0, .slice none 0 0] 57)
          have hB1 := Bl.trans HB0.out hbl
          have hb9 := blk_below HX9.out hbl
          have hb10 := blk_below HX10.out hbl
          have hb11 := blk_below HX11.out hbl
          have hb12 := blk_below HX12.out hbl
          have gt13_ : gn < wq.heap.size := Nat.lt_of_lt_of_le (blk_lt (blk_below HBN.out HB0.out)) hq.size
          clear nf hq hbl HB0 HX9 HX10 HX11 HX12
          generalize wq.alloc (.cells #[.int .i64 0, .int .i64 x4, .string E0, .slice none 0 0] 57) = w24 at hb13 hB1 hb9 hb10 hb11 hb12 ⊢
          generalize wq.heap.size = q13 at hb13 gt13_ ⊢
          have HB0 := Aside0.mk hB1
          have HX9 := Aside0.mk hb9
          have HX10 := Aside0.mk hb10
          have HX11 := Aside0.mk hb11
          have HX12 := Aside0.mk hb12
          have HX13 := Aside0.mk hb13
          clear hB1 hb9 hb10 hb11 hb12 hb13
          have nf : w24.cell? ⟨gn, 5, none⟩ = some (.string x5) := (blk_cell (blk_below HBN.out HB0.out) 5).trans rfl
          go_upto_region 18 with (go_at_call 65; go_loud ((with_reducible refine (str_walk _ _).mono ?_); rintro e wq ⟨rfl, hq⟩))
          have hbl : Bl w24 (wq.alloc (.cells #[.int .i64 1, .int .i64 0, .string x5, .slice none 0 0] 57)) := hq.alloc _
          have hb14 := blk_new wq (.cells #[.int .i64 1, .int .i64 0, .string x5, .slice none 0 0] 57)
          have hB1 := Bl.trans HB0.out hbl
          have hb9 := blk_below HX9.out hbl
          have hb10 := blk_below HX10.out hbl
          have hb11 := blk_below HX11.out hbl
          have hb12 := blk_below HX12.out hbl
          have hb13 := blk_below HX13.out hbl
          have gt14_ : gn < wq.heap.size := Nat.lt_of_lt_of_le (blk_lt (blk_below HBN.out HB0.out)) hq.size
          clear nf hq hbl HB0 HX9 HX10 HX11 HX12 HX13
          generalize wq.alloc (.cells #[.int .i64 1, .int .i64 0, .string x5, .slice none 0 0] 57) = w25 at hb14 hB1 hb9 hb10 hb11 hb12 hb13 ⊢
          generalize wq.heap.size = q14 at hb14 gt14_ ⊢
          have HB0 := Aside0.mk hB1
          have HX9 := Aside0.mk hb9
          have HX10 := Aside0.mk hb10
          have HX11 := Aside0.mk hb11
          have HX12 := Aside0.mk hb12
          have HX13 := Aside0.mk hb13
          have HX14 := Aside0.mk hb14
          clear hB1 hb9 hb10 hb11 hb12 hb13 hb14
          have k9_0 : w25.cell? ⟨q9, 0, none⟩ = some (.int .i64 1) := (blk_cell HX9.out 0).trans rfl
          have k9_1 : w25.cell? ⟨q9, 1, none⟩ = some (.int .i64 0) := (blk_cell HX9.out 1).trans rfl
          have k9_2 : w25.cell? ⟨q9, 2, none⟩ = some (.string x0) := (blk_cell HX9.out 2).trans rfl
          have k9_3 : w25.cell? ⟨q9, 3, none⟩ = some (.slice none 0 0) := (blk_cell HX9.out 3).trans rfl
          have k10_0 : w25.cell? ⟨q10, 0, none⟩ = some (.int .i64 2) := (blk_cell HX10.out 0).trans rfl
          have k10_1 : w25.cell? ⟨q10, 1, none⟩ = some (.int .i64 0) := (blk_cell HX10.out 1).trans rfl
          have k10_2 : w25.cell? ⟨q10, 2, none⟩ = some (.string E0) := (blk_cell HX10.out 2).trans rfl
          have k10_3 : w25.cell? ⟨q10, 3, none⟩ = some (.slice A6 dl.length c6) := (blk_cell HX10.out 3).trans rfl
          have k11_0 : w25.cell? ⟨q11, 0, none⟩ = some (.int .i64 0) := (blk_cell HX11.out 0).trans rfl
          have k11_1 : w25.cell? ⟨q11, 1, none⟩ = some (.int .i64 x2) := (blk_cell HX11.out 1).trans rfl
          have k11_2 : w25.cell? ⟨q11, 2, none⟩ = some (.string E0) := (blk_cell HX11.out 2).trans rfl
          have k11_3 : w25.cell? ⟨q11, 3, none⟩ = some (.slice none 0 0) := (blk_cell HX11.out 3).trans rfl
          have k12_0 : w25.cell? ⟨q12, 0, none⟩ = some (.int .i64 0) := (blk_cell HX12.out 0).trans rfl
          have k12_1 : w25.cell? ⟨q12, 1, none⟩ = some (.int .i64 x3) := (blk_cell HX12.out 1).trans rfl
          have k12_2 : w25.cell? ⟨q12, 2, none⟩ = some (.string E0) := (blk_cell HX12.out 2).trans rfl
          have k12_3 : w25.cell? ⟨q12, 3, none⟩ = some (.slice none 0 0) := (blk_cell HX12.out 3).trans rfl
          have k13_0 : w25.cell? ⟨q13, 0, none⟩ = some (.int .i64 0) := (blk_cell HX13.out 0).trans rfl
          have k13_1 : w25.cell? ⟨q13, 1, none⟩ = some (.int .i64 x4) := (blk_cell HX13.out 1).trans rfl
          have k13_2 : w25.cell? ⟨q13, 2, none⟩ = some (.string E0) := (blk_cell HX13.out 2).trans rfl
          have k13_3 : w25.cell? ⟨q13, 3, none⟩ = some (.slice none 0 0) := (blk_cell HX13.out 3).trans rfl
          have k14_0 : w25.cell? ⟨q14, 0, none⟩ = some (.int .i64 1) := (blk_cell HX14.out 0).trans rfl
          have k14_1 : w25.cell? ⟨q14, 1, none⟩ = some (.int .i64 0) := (blk_cell HX14.out 1).trans rfl
          have k14_2 : w25.cell? ⟨q14, 2, none⟩ = some (.string x5) := (blk_cell HX14.out 2).trans rfl
          have k14_3 : w25.cell? ⟨q14, 3, none⟩ = some (.slice none 0 0) := (blk_cell HX14.out 3).trans rfl
          go_upto_region 19 with (go_at_call 66; go_loud ((with_reducible refine (list_walk _ _ _ _).mono ?_); rintro e wq ⟨rfl, hq⟩))
          have hr := blk_new w25 (.cells #[.int .i64 1, .int .i64 0, .string x0, .slice none 0 0, .int .i64 2, .int .i64 0, .string E0, .slice A6 dl.length c6, .int .i64 0, .int .i64 x2, .string E0, .slice none 0 0, .int .i64 0, .int .i64 x3, .string E0, .slice none 0 0, .int .i64 0, .int .i64 x4, .string E0, .slice none 0 0, .int .i64 1, .int .i64 0, .string x5, .slice none 0 0] 57)
          have hbl : Bl (w25.alloc (.cells #[.int .i64 1, .int .i64 0, .string x0, .slice none 0 0, .int .i64 2, .int .i64 0, .string E0, .slice A6 dl.length c6, .int .i64 0, .int .i64 x2, .string E0, .slice none 0 0, .int .i64 0, .int .i64 x3, .string E0, .slice none 0 0, .int .i64 0, .int .i64 x4, .string E0, .slice none 0 0, .int .i64 1, .int .i64 0, .string x5, .slice none 0 0] 57)) (wq.alloc (.cells #[.int .i64 2, .int .i64 0, .string E0, .slice (some ⟨w25.heap.size, 0, none⟩) 6 6] 57)) := hq.alloc _
          have hbl2 : Bl w25 (wq.alloc (.cells #[.int .i64 2, .int .i64 0, .string E0, .slice (some ⟨w25.heap.size, 0, none⟩) 6 6] 57)) := Bl.trans (below_alloc (Below.refl _ _) _) hbl
          have hr2 := blk_below hr hbl
          have hbv := blk_new wq (.cells #[.int .i64 2, .int .i64 0, .string E0, .slice (some ⟨w25.heap.size, 0, none⟩) 6 6] 57)
          have hB1 := Bl.trans HB0.out hbl2
          have gtr : gn < w25.heap.size := Nat.lt_of_lt_of_le (blk_lt HBN.out) HB0.out.size
          clear hr hbl hbl2 hq HB0 HX9 HX10 HX11 HX12 HX13 HX14 k9_0 k9_1 k9_2 k9_3 k10_0 k10_1 k10_2 k10_3 k11_0 k11_1 k11_2 k11_3 k12_0 k12_1 k12_2 k12_3 k13_0 k13_1 k13_2 k13_3 k14_0 k14_1 k14_2 k14_3
          generalize wq.alloc (.cells #[.int .i64 2, .int .i64 0, .string E0, .slice (some ⟨w25.heap.size, 0, none⟩) 6 6] 57) = w30 at hr2 hbv hB1 ⊢
          generalize w25.heap.size = gr at hr2 hbv gtr ⊢
          generalize wq.heap.size = gv at hbv ⊢
          have HE := Aside0.mk (HE0.out.go hB1)
          have HN9 := Aside0.mk (Kd.N_mono (ok' := fun k => g2 < k) (Kd.N_below HN.out hB1) (fun k hk => hk.1))
          have HRW := Aside0.mk (show ∀ k, (u3 : Value).ownBlock = some k → g2 < k ∧ k < gn from HN.out.1)
          have hF6 := Kd.F_below (Kd.N_F HD0.out) hB1
          have hl6 := (Kd.N_reads' HD0.out).2.1
          have hll : dl.length ≤ 1000000 := by rw [← HDL.out, List.length_map]; exact hlx
          have hFX := foot_of (fun k => gn < k) gtr hr2 [strW x0, allW dl, numW x2, numW x3, numW x4, strW x5] (by simp) (fun j x hj => by
            match j, hj with
            | 0, hj => obtain rfl : strW x0 = x := by simpa using hj
                       exact ⟨none, 0, Nat.le_refl _, Kd.F_nil _ _ _, rfl, rfl, rfl, rfl⟩
            | 1, hj => obtain rfl : allW dl = x := by simpa using hj
                       exact ⟨A6, c6, hl6, hF6, rfl, rfl, rfl, rfl⟩
            | 2, hj => obtain rfl : numW x2 = x := by simpa using hj
                       exact ⟨none, 0, Nat.le_refl _, Kd.F_nil _ _ _, rfl, rfl, rfl, rfl⟩
            | 3, hj => obtain rfl : numW x3 = x := by simpa using hj
                       exact ⟨none, 0, Nat.le_refl _, Kd.F_nil _ _ _, rfl, rfl, rfl, rfl⟩
            | 4, hj => obtain rfl : numW x4 = x := by simpa using hj
                       exact ⟨none, 0, Nat.le_refl _, Kd.F_nil _ _ _, rfl, rfl, rfl, rfl⟩
            | 5, hj => obtain rfl : strW x5 = x := by simpa using hj
                       exact ⟨none, 0, Nat.le_refl _, Kd.F_nil _ _ _, rfl, rfl, rfl, rfl⟩
            | j + 6, hj => simp at hj)
          have HFV := Aside0.mk (k57_mkF w30 (fun k => gn < k) (allW [strW x0, allW dl, numW x2, numW x3, numW x4, strW x5]) (c3 := 6) (Nat.le_refl _) hFX)
          have HTM2 := Aside0.mk (show (l.take i).map nodeW ++ [allW [strW x0, allW dl, numW x2, numW x3, numW x4, strW x5]] = (l.take (i + 1)).map nodeW by rw [← HTM.out, ← HDL.out]; rfl)
          have v0 : w30.cell? ⟨gv, 0, none⟩ = some (.int .i64 2) := (blk_cell hbv 0).trans rfl
          have v1 : w30.cell? ⟨gv, 1, none⟩ = some (.int .i64 0) := (blk_cell hbv 1).trans rfl
          have v2 : w30.cell? ⟨gv, 2, none⟩ = some (.string E0) := (blk_cell hbv 2).trans rfl
          have v3 : w30.cell? ⟨gv, 3, none⟩ = some (.slice (some ⟨gr, 0, none⟩) 6 6) := (blk_cell hbv 3).trans rfl
          have HGN := Aside0.mk (show ∀ k, w30.heap.size ≤ k → g2 < k from fun k hk => by have := blk_lt hbv; have := blk_lt hr2; omega)
          have hln2 : (((l.take i).map nodeW).length + 1) * 56 ≤ 140737488355328 := by have := HLN.out; omega
          have HLN3 := Aside0.mk hln2
          clear hF6 hl6 hll hFX hr2 hbv hln2 hB1
          go_wp2_with ((with_reducible refine gate_builtin (b := .append) (xs := #[.tmp 72, .tmp 74]) rfl ?_); at_builtin; refine Kd.N_append k57 (w0 := w) w.heap.size rfl (.tmp 72) (.tmp 74) 55 57 (.agg #[(.int .i64 0), (.int .i64 0), (.string ⟨#[]⟩), (.slice none 0 0)]) 56 rfl Try.underlying55 info57 rfl (by decide) (by omega) _ ((l.take i).map nodeW) (allW [strW x0, allW dl, numW x2, numW x3, numW x4, strW x5]) [.int .i64 2, .int .i64 0, .string E0, .slice (some ⟨gr, 0, none⟩) 6 6] (fun k => g2 < k) (fun k => gn < k) rfl rfl HFV.out (fun k hk => ⟨by omega, fun e => by have := (HRW.out k e.symm).2; omega⟩) HGN.out HN9.out HE.out.HB HE.out.HB.size HLN3.out ?_; intro v9 w9 hD9 hb9 hg9 hat9; rw [HTM2.out] at hD9; have hE9 := Aside0.mk (HE.out.grown hb9 hg9 (fun k hk => by have := (HRW.out k hk).1; omega)); have HD9 := Aside0.mk hD9; clear hD9 hb9 hg9 hat9)
          go_roundw
          case rel => exact ⟨i + 1, by go_num, by have := HI.out; omega, hE9, HD9⟩
          case measure => simp [intOf]; have := HI.out; omega
    · obtain rfl : i = l.length := by omega
      have hge : ¬ ((l.length : Int) < (l.length : Int)) := by omega
      have hN0 := HN.out
      rw [List.take_of_length_le (Nat.le_refl _)] at hN0
      have hnl : (l.map nodeW).length ≤ 1000000 := by rw [List.length_map]; exact hlen
      generalize hnq : l.map nodeW = nl at hN0 hnl ⊢
      have HNQ := Aside0.mk hnq
      clear hnq
      obtain ⟨A3, c3, e3⟩ := Kd.N_slice hN0
      subst e3
      have HN0 := Aside0.mk hN0
      have HNL := Aside0.mk hnl
      clear hN0 hnl HN
      have c10 : wr.cell? ⟨g1, 0, none⟩ = some (.string nm) := (blk_cell HE.out.B1 0).trans rfl
      go_upto_region 21 with (go_at_call 65; go_loud ((with_reducible refine (str_walk _ _).mono ?_); rintro e wq ⟨rfl, hq⟩))
      have hbl : Bl wr (wq.alloc (.cells #[.int .i64 1, .int .i64 0, .string nm, .slice none 0 0] 57)) := hq.alloc _
      have hb16 := blk_new wq (.cells #[.int .i64 1, .int .i64 0, .string nm, .slice none 0 0] 57)
      clear c10 c11 hq
      generalize wq.alloc (.cells #[.int .i64 1, .int .i64 0, .string nm, .slice none 0 0] 57) = w40 at hbl hb16 ⊢
      generalize wq.heap.size = q16 at hb16 ⊢
      have HB0 := Aside0.mk hbl
      have HX16 := Aside0.mk hb16
      clear hbl hb16
      go_upto_region 22 with (go_at_call 66; go_loud ((with_reducible refine (list_walk _ _ _ _).mono ?_); rintro e wq ⟨rfl, hq⟩))
      have hbl : Bl w40 (wq.alloc (.cells #[.int .i64 2, .int .i64 0, .string E0, .slice A3 nl.length c3] 57)) := hq.alloc _
      have hb17 := blk_new wq (.cells #[.int .i64 2, .int .i64 0, .string E0, .slice A3 nl.length c3] 57)
      have hb16 := blk_below HX16.out hbl
      have hB1 := Bl.trans HB0.out hbl
      clear hq hbl HX16 HB0
      generalize wq.alloc (.cells #[.int .i64 2, .int .i64 0, .string E0, .slice A3 nl.length c3] 57) = w41 at hB1 hb16 hb17 ⊢
      generalize wq.heap.size = q17 at hb17 ⊢
      have HE1 := Aside0.mk (HE.out.go hB1)
      have hF3 := Kd.F_below (Kd.N_F HN0.out) hB1
      have hl3 := (Kd.N_reads' HN0.out).2.1
      have k16_0 : w41.cell? ⟨q16, 0, none⟩ = some (.int .i64 1) := (blk_cell hb16 0).trans rfl
      have k16_1 : w41.cell? ⟨q16, 1, none⟩ = some (.int .i64 0) := (blk_cell hb16 1).trans rfl
      have k16_2 : w41.cell? ⟨q16, 2, none⟩ = some (.string nm) := (blk_cell hb16 2).trans rfl
      have k16_3 : w41.cell? ⟨q16, 3, none⟩ = some (.slice none 0 0) := (blk_cell hb16 3).trans rfl
      have k17_0 : w41.cell? ⟨q17, 0, none⟩ = some (.int .i64 2) := (blk_cell hb17 0).trans rfl
      have k17_1 : w41.cell? ⟨q17, 1, none⟩ = some (.int .i64 0) := (blk_cell hb17 1).trans rfl
      have k17_2 : w41.cell? ⟨q17, 2, none⟩ = some (.string E0) := (blk_cell hb17 2).trans rfl
      have k17_3 : w41.cell? ⟨q17, 3, none⟩ = some (.slice A3 nl.length c3) := (blk_cell hb17 3).trans rfl
      have HF3 := Aside0.mk hF3
      have HL3 := Aside0.mk hl3
      clear hF3 hl3 hb16 hb17 hB1
      have hr := blk_new w41 (.cells #[.int .i64 1, .int .i64 0, .string nm, .slice none 0 0, .int .i64 2, .int .i64 0, .string E0, .slice A3 nl.length c3] 57)
      have hE2 := HE1.out.go (show Bl w41 (w41.alloc (.cells #[.int .i64 1, .int .i64 0, .string nm, .slice none 0 0, .int .i64 2, .int .i64 0, .string E0, .slice A3 nl.length c3] 57)) from below_alloc (Below.refl _ _) _)
      have hF4 := Kd.F_alloc HF3.out (.cells #[.int .i64 1, .int .i64 0, .string nm, .slice none 0 0, .int .i64 2, .int .i64 0, .string E0, .slice A3 nl.length c3] 57)
      have gtr : g2 < w41.heap.size := blk_lt HE1.out.B2
      have HR := Aside0.mk hr
      have HE2 := Aside0.mk hE2
      have HF4 := Aside0.mk hF4
      have HGR := Aside0.mk gtr
      clear hr hE2 hF4 gtr
      have HK := Aside0.mk (show ∀ wq, Bl (w41.alloc (.cells #[.int .i64 1, .int .i64 0, .string nm, .slice none 0 0, .int .i64 2, .int .i64 0, .string E0, .slice A3 nl.length c3] 57)) wq → wq.heap[g2]? = some (.cells #[.int .i64 0, .int .i64 0, .string E0, .slice none 0 0] 57 (0, 0)) from fun wq h => (HE2.out.go h).B2)
      go_wp2_with (go_at_call 66; go_loud ((with_reducible refine (list_walk _ _ _ _).mono ?_); rintro e wq ⟨rfl, hq⟩; have HQ := Aside0.mk hq; have hh := HK.out wq hq; have r0 : wq.cell? ⟨g2, 0, none⟩ = some (.int .i64 0) := (blk_cell hh 0).trans rfl; have r1 : wq.cell? ⟨g2, 1, none⟩ = some (.int .i64 0) := (blk_cell hh 1).trans rfl; have r2 : wq.cell? ⟨g2, 2, none⟩ = some (.string E0) := (blk_cell hh 2).trans rfl; have r3 : wq.cell? ⟨g2, 3, none⟩ = some (.slice none 0 0) := (blk_cell hh 3).trans rfl; have p0 := blk_frozen hh 0; have p1 := blk_frozen hh 1; have p2 := blk_frozen hh 2; have p3 := blk_frozen hh 3; clear hh hq))
      have hE3 := HE2.out.go HQ.out
      have hF5 := Kd.F_below HF4.out HQ.out
      have hr3 := blk_below HR.out HQ.out
      have hFX := foot_of (fun k => g2 < k) HGR.out hr3 [strW nm, allW nl] (by simp) (fun j x hj => by
        match j, hj with
        | 0, hj => obtain rfl : strW nm = x := by simpa using hj
                   exact ⟨none, 0, Nat.le_refl _, Kd.F_nil _ _ _, rfl, rfl, rfl, rfl⟩
        | 1, hj => obtain rfl : allW nl = x := by simpa using hj
                   exact ⟨A3, c3, HL3.out, Kd.F_mono hF5 (fun k hk => hk), rfl, rfl, rfl, rfl⟩
        | j + 2, hj => simp at hj)
      refine bodyPost_ret (results_single Try.results26 (.cell g2 57 #[.int .i64 2, .int .i64 0, .string E0, .slice (some ⟨w41.heap.size, 0, none⟩) 2 2] (0, 0) _ rfl (by refine blk_put (cs := #[.int .i64 2, .int .i64 0, .string E0, .slice none 0 0]) ?_ 3 _ rfl; refine blk_put (cs := #[.int .i64 2, .int .i64 0, .string E0, .slice none 0 0]) ?_ 2 _ rfl; refine blk_put (cs := #[.int .i64 2, .int .i64 0, .string E0, .slice none 0 0]) ?_ 1 _ rfl; refine blk_put (cs := #[.int .i64 0, .int .i64 0, .string E0, .slice none 0 0]) ?_ 0 _ rfl; exact hE3.B2) hu1 rfl (by kernel_rfl) .nil)) rfl ?_
      have hst : ∀ W0 : World, ∀ j u, (∀ k, g2 < k → (W0.setCell ⟨g2, j, none⟩ u).heap[k]? = W0.heap[k]?) := fun W0 j u k hk => Below.heap_setCell _ _ _ _ (by simp; omega)
      have hFin := Kd.F_step (Kd.F_step (Kd.F_step (Kd.F_step hFX (fun k hk _ => hst wq 0 (.int .i64 2) k hk)) (fun k hk _ => hst _ 1 (.int .i64 0) k hk)) (fun k hk _ => hst _ 2 (.string E0) k hk)) (fun k hk _ => hst _ 3 (.slice (some ⟨w41.heap.size, 0, none⟩) 2 2) k hk)
      rw [HNQ.out]
      exact ⟨_, rfl, ⟨_, 2, rfl, Nat.le_refl _, Kd.F_mono hFin (fun k hk => by omega)⟩, below_set (below_set (below_set (below_set hE3.HB (by omega)) (by omega)) (by omega)) (by omega)⟩
end Go.Proofs.Ytjicfkmpgogppaa.Vw
