/-
  graph.Flow.find: the number of the first node of a name.
-/
import Derived.Test.YtjicfkmpgogppaaPGx0
import Derived.Test.YtjicfkmpgogppaaPlain
import Derived.Tactics
import Derived.Tactics2
import Derived.LoopTactic
import Derived.Outline
import Derived.WalkSmall
namespace Go.Proofs.Ytjicfkmpgogppaa.Fi
set_option linter.unusedVariables false
set_option linter.unusedSimpArgs false
open Go Go.RowKit Go.Proofs.Ytjicfkmpgogppaa.Plain Go.Proofs.Ytjicfkmpgogppaa.PG Go.Proofs.YtjicfkmpgogppaaW.PrintWords Go.Proofs.YtjicfkmpgogppaaW.PrintLast Go.Proofs.YtjicfkmpgogppaaW.PrintMore
abbrev Nd := S48
def findN : List Nd → ByteArray → Int → Int
  | [], _, _ => -1
  | x :: l, s, i => if x.f0.toList = s.toList then i else findN l s (i + 1)
set_option maxHeartbeats 4000000 in
set_option maxRecDepth 100000 in
theorem fn_walk (x0 : ByteArray) (A : Option Addr) (n c : Nat) (x2 x3 x4 : Int) (x5 name : ByteArray) (bn : Nat) (w : World) (hn : w.heap[bn]? = some (.cells #[.string name] 9 (0, 0))) :
    Calls Try.prog 90 #[.agg #[.string x0, .slice A n c, .int .i64 x2, .int .i64 x3, .int .i64 x4, .string x5], .pointer (some ⟨bn, 0, none⟩)] w fun e w' => e = .returned (.bool (x0.toList == name.toList)) ∧ Below w.heap.size w w' := by
  have hu := Try.underlying48
  have HN := Aside0.mk hn
  clear hn
  go_enter Try.func90, Try.ntmps90
  go_upto_region 1 with fail
  have hb := below_alloc (Below.refl w.heap.size w) (.cells #[.string x0, .slice A n c, .int .i64 x2, .int .i64 x3, .int .i64 x4, .string x5] 48)
  have h1 := blk_alloc HN.out (.cells #[.string x0, .slice A n c, .int .i64 x2, .int .i64 x3, .int .i64 x4, .string x5] 48)
  have h2 := blk_new w (.cells #[.string x0, .slice A n c, .int .i64 x2, .int .i64 x3, .int .i64 x4, .string x5] 48)
  generalize w.alloc (.cells #[.string x0, .slice A n c, .int .i64 x2, .int .i64 x3, .int .i64 x4, .string x5] 48) = w2 at hb h1 h2 ⊢
  have c0 : w2.cell? ⟨bn, 0, none⟩ = some (.string name) := (blk_cell h1 0).trans rfl
  have c1 : w2.cell? ⟨w.heap.size, 0, none⟩ = some (.string x0) := (blk_cell h2 0).trans rfl
  go_wp2
  go_ret
  exact ⟨rfl, hb⟩
set_option maxHeartbeats 8000000 in
set_option maxRecDepth 100000 in
theorem indexFunc_walk (l : List Nd) (A : Option Addr) (c : Nat) (name : ByteArray) (bn : Nat) (w : World) (hl : Kd.C k48 w A l.length l) (hc : l.length ≤ c) (hn : w.heap[bn]? = some (.cells #[.string name] 9 (0, 0))) :
    Calls Try.prog 89 #[.slice A l.length c, .func (.func 90) #[] #[.pointer (some ⟨bn, 0, none⟩)]] w fun e w' => e = .returned (.int .i64 (findN l name 0)) ∧ Below w.heap.size w w' := by
  have hu := Try.underlying48
  have HL := Aside0.mk hl
  have HC := Aside0.mk hc
  have HN := Aside0.mk hn
  have hl63 : (l.length : Int) ≤ 9223372036854775807 := by have := hl.2.1; omega
  clear hl hc hn
  go_enter Try.func89, Try.ntmps89
  go_wp2
  go_loopw [8] (fun v8 wr => ∃ i : Nat, v8 = .int .i64 (i : Int) ∧ i ≤ l.length ∧ Aside0 (findN l name 0 = findN (l.drop i) name i) ∧ Aside0 (Below w.heap.size w wr)) (fun v8 _ => l.length - (intOf v8).toNat)
  case atStart => exact ⟨0, rfl, Nat.zero_le _, ⟨by simp⟩, ⟨Below.refl _ _⟩⟩
  case round =>
    obtain ⟨i, rfl, hi, HE, HB⟩ := hrel
    by_cases hlt : i < l.length
    · obtain ⟨ad, A3, c3, rfl, x0, x1, x2, x3, x4, x5, lx, gx⟩ := at_T48 HL.out (i : Int) (by omega) (by omega)
      have rx : rd_T48 l (i : Int) = l[i] := by
        unfold rd_T48
        rw [Int.toNat_natCast, List.getD_eq_getElem?_getD, List.getElem?_eq_getElem hlt, Option.getD_some]
      rw [rx, Int.toNat_natCast] at x0 x1 x2 x3 x4 x5
      have hstep : findN (l.drop i) name i = if l[i].f0.toList = name.toList then (i : Int) else findN (l.drop (i + 1)) name (i + 1) := by
        rw [List.drop_eq_getElem_cons hlt]
        simp only [findN]
      have HE' : Aside0 (findN l name 0 = if l[i].f0.toList = name.toList then (i : Int) else findN (l.drop (i + 1)) name (i + 1)) := ⟨HE.out.trans hstep⟩
      clear hstep HE rx lx gx
      generalize l[i] = x at x0 x1 x2 x3 x4 x5 HE'
      replace x0 := (HB.out.cell (World.block_lt_of_cell? w _ x0)).trans x0
      replace x1 := (HB.out.cell (World.block_lt_of_cell? w _ x1)).trans x1
      replace x2 := (HB.out.cell (World.block_lt_of_cell? w _ x2)).trans x2
      replace x3 := (HB.out.cell (World.block_lt_of_cell? w _ x3)).trans x3
      replace x4 := (HB.out.cell (World.block_lt_of_cell? w _ x4)).trans x4
      replace x5 := (HB.out.cell (World.block_lt_of_cell? w _ x5)).trans x5
      have HN2 := Aside0.mk (blk_below HN.out HB.out)
      have hli : (i : Int) < (l.length : Int) := by omega
      have hi0 : (0 : Int) ≤ (i : Int) := by omega
      by_cases he : x.f0.toList = name.toList
      · have he' : (x.f0.toList == name.toList) = true := beq_iff_eq.mpr he
        have HE2 : Aside0 (findN l name 0 = (i : Int)) := ⟨by rw [HE'.out, if_pos he]⟩
        clear he HE'
        go_wp2_with (go_at_call 90; go_loud ((with_reducible refine (fn_walk x.f0 A3 x.f1.length c3 x.f2 x.f3 x.f4 x.f5 name bn _ HN2.out).mono ?_); rintro e w4 ⟨rfl, hb⟩; rw [he']; have HB4 := Aside0.mk (below_then HB.out (below_size HB.out) hb); clear hb))
        go_ret
        exact ⟨by rw [HE2.out]; rfl, HB4.out⟩
      · have he' : (x.f0.toList == name.toList) = false := beq_eq_false_iff_ne.mpr he
        have HE2 : Aside0 (findN l name 0 = findN (l.drop (i + 1)) name ((i + 1 : Nat) : Int)) := ⟨by rw [HE'.out, if_neg he]; rfl⟩
        clear he HE'
        go_wp2_with (go_at_call 90; go_loud ((with_reducible refine (fn_walk x.f0 A3 x.f1.length c3 x.f2 x.f3 x.f4 x.f5 name bn _ HN2.out).mono ?_); rintro e w4 ⟨rfl, hb⟩; rw [he']; have HB4 := Aside0.mk (below_then HB.out (below_size HB.out) hb); clear hb))
        go_roundw
        case rel => exact ⟨i + 1, by go_num, by omega, HE2, HB4⟩
        case measure => simp [intOf]; omega
    · obtain rfl : i = l.length := by omega
      have hge : ¬ ((l.length : Int) < (l.length : Int)) := by omega
      go_wp2
      go_ret
      refine ⟨?_, HB.out⟩
      have h := HE.out
      rw [List.drop_length] at h
      rw [h]; rfl
set_option maxHeartbeats 4000000 in
set_option maxRecDepth 100000 in
theorem find_walk (fname : ByteArray) (l : List Nd) (A : Option Addr) (c : Nat) (name : ByteArray) (w : World) (hl : Kd.C k48 w A l.length l) (hc : l.length ≤ c) :
    Calls Try.prog 50 #[.agg #[.string fname, .slice A l.length c], .string name] w fun e w' => e = .returned (.int .i64 (findN l name 0)) ∧ Below w.heap.size w w' := by
  have hmf : ∀ (fn : Fn) (first cap : Array Value) (w : World), (Instr.makeFunc fn first cap).run Try.prog w = .ok (.func fn first cap) w := fun _ _ _ _ => rfl
  have hu := Try.underlying27
  have HL := Aside0.mk hl
  have HC := Aside0.mk hc
  clear hl hc
  go_enter Try.func50, Try.ntmps50
  go_upto_region 1 with fail
  have hb := below_alloc (below_alloc (Below.refl w.heap.size w) (.cells #[.string fname, .slice A l.length c] 27)) (.cells #[.string name] 9)
  have hz : (w.alloc (.cells #[.string fname, .slice A l.length c] 27)).heap.size = w.heap.size + 1 := by show (w.heap.push _).size = _; exact Array.size_push _
  have h1 := blk_alloc (blk_new w (.cells #[.string fname, .slice A l.length c] 27)) (.cells #[.string name] 9)
  have h2 := blk_new (w.alloc (.cells #[.string fname, .slice A l.length c] 27)) (.cells #[.string name] 9)
  rw [hz] at h2
  generalize (w.alloc (.cells #[.string fname, .slice A l.length c] 27)).alloc (.cells #[.string name] 9) = w2 at hb h1 h2 ⊢
  have HB := Aside0.mk hb
  have c1 : w2.cell? ⟨w.heap.size, 1, none⟩ = some (.slice A l.length c) := (blk_cell h1 1).trans rfl
  have HI := Aside0.mk (indexFunc_walk l A c name (w.heap.size + 1) w2 (Kd.C_below HL.out hb) HC.out h2)
  clear hb h1 h2
  generalize hr : findN l name 0 = r at HI
  go_wp2_with (go_at_call 89; go_loud ((with_reducible refine HI.out.mono ?_); rintro e w4 ⟨rfl, hb⟩; have HB4 := Aside0.mk (below_then HB.out (below_size HB.out) hb); clear hb))
  go_ret
  exact ⟨by rw [hr]; rfl, HB4.out⟩
end Go.Proofs.Ytjicfkmpgogppaa.Fi
