/-
  op.Read, walked: a workflow is asked for; nothing is asked for; and the whole.
  op.Read, as the print takes it: its answer, flat.
  Asks and their args: plain; the walks of Args and Read, of every op, in one form each.
  What values ask for, by the program and by the document: plain, and both walks in one form.
  Values as workflows: the document's and the program's are alike.
  What values ask for, by the document: what the program says.
  An ask is read back from its args: plain.
-/
import Derived.Test.YtjicfkmpgogppaaOeW
import Derived.LoopTactic
import Derived.Outline
import Derived.Test.YtjicfkmpgogppaaH3
import Derived.Test.YtjicfkmpgogppaaAgW
import Derived.Test.YtjicfkmpgogppaaArW
import Derived.Test.YtjicfkmpgogppaaH1
namespace Go.Proofs.Ytjicfkmpgogppaa.Or
set_option linter.unusedVariables false
set_option linter.unusedSimpArgs false
open Go Go.RowKit Go.Proofs.Ytjicfkmpgogppaa.Vs Go.Proofs.Ytjicfkmpgogppaa.PA Go.Proofs.YtjicfkmpgogppaaW.PrintWords Go.Proofs.YtjicfkmpgogppaaW.PrintLast Go.Proofs.YtjicfkmpgogppaaW.PrintMore
set_option maxHeartbeats 8000000 in
set_option maxRecDepth 100000 in
theorem read_define (l : List V) (A : Option Addr) (c : Nat) (w : World) (hC : Kd.C k54 w A l.length l) (hc : l.length ≤ c) (FR : V → ByteArray × List A_ × Int) (K : Nat) (hFR : ∀ x ∈ l, graph_Read.f K x.f0 x.f1 x.f2 x.f3 = some (FR x)) :
    Calls Try.prog 44 #[.int .i64 4, .slice A l.length c] w (PostR w (readA FR 4 l)) := by
  have hmf : ∀ (fn : Fn) (first cap : Array Value) (w : World), (Instr.makeFunc fn first cap).run Try.prog w = .ok (.func fn first cap) w := fun _ _ _ _ => rfl
  have hu1 := Try.underlying107
  have hu2 := Try.underlying161
  have HC := Aside0.mk hC
  have Hc := Aside0.mk hc
  clear hC hc
  go_enter_defers Try.func44, Try.ntmps44
  go_upto_region 4 with fail
  have hE := envR_start 4 l A c w HC.out Hc.out
  generalize ((w.alloc (.cells #[.int .i64 4, .int .i64 0, .int .i64 0, .int .i64 0, .bool false, .int .i64 0, .int .i64 0, .int .i64 0, .int .i64 0, .string ⟨#[]⟩, .string ⟨#[]⟩, .slice none 0 0] 107)).alloc (.cells #[.int .i64 0] 33)).alloc (.cells #[.slice A l.length c] 161) = w3 at hE ⊢
  obtain ⟨ga, hga⟩ : ∃ g, w.heap.size = g := ⟨_, rfl⟩
  obtain ⟨ge, hge⟩ : ∃ g, ga + 1 = g := ⟨_, rfl⟩
  obtain ⟨gr, hgr⟩ : ∃ g, ge + 1 = g := ⟨_, rfl⟩
  rw [hga, hge, hgr] at hE ⊢
  have g0 : w.heap.size ≤ ga := Nat.le_of_eq hga
  have g1 : ga < ge := by omega
  have g2 : ge < gr := by omega
  have g3 : ga < gr := by omega
  have HE0 := Aside0.mk hE
  clear hga hge hgr hE HC Hc
  have HFR := Aside0.mk hFR
  clear hFR
  have hsz := HE0.out.R.lt
  cases l with
  | nil =>
    have HBQ := Aside0.mk (flow_kind [] gr w w3 HE0.out.R (fun x t e => by cases e))
    go_wp2_with (first | (go_at_call 85; go_loud ((with_reducible refine (HBQ.out).mono ?_); rintro e wb ⟨rfl, hb, hk⟩; have HLO := Aside0.mk (HE0.out.lost g3 g2 hk); have HBB := Aside0.mk hb; clear hb hk)))
    refine door_caught ga ge _ _ 4 0 _ _ _ _ _ _ _ _ _ _ _ _ _ rfl rfl (HLO.out).1 (HLO.out).2 (post_none (rfl) ?_)
    exact (set12_below HBB.out g0 _ _ _ _ _ _ _ _ _ _ _ _).setCell (by show w.heap.size ≤ ge; omega) _
  | cons m1 t1 =>
    have HG := Aside0.mk (HFR.out m1 (by simp))
    by_cases hx : m1.f0 = 2
    · by_cases hy : (FR m1).2.2 = 0
      · have HX := Aside0.mk hx
        have HY := Aside0.mk hy
        have hg : graph_Read.f K m1.f0 m1.f1 m1.f2 m1.f3 = some ((FR m1).1, (FR m1).2.1, 0) := by rw [HG.out, ← hy]
        have HL := Aside0.mk (flow_ok K m1 t1 gr w w3 HE0.out.R hx (FR m1).1 (FR m1).2.1 hg)
        clear hx hy hg
        go_upto_region 22 with (first | (go_at_call 85; go_loud ((with_reducible refine (HL.out).mono ?_); rintro e w11 ⟨A5, c5, rfl, l5, hF5, hr, hk⟩; have HE1 := Aside0.mk (HE0.out.keep g3 g2 hr hk); have HF5 := Aside0.mk hF5; have HL5 := Aside0.mk l5; clear hF5 l5; have k10 : w11.cell? ⟨ga, 10, none⟩ = some (.string ⟨#[]⟩) := (blk_cell HE1.out.A 10).trans rfl; have q10 := blk_frozen HE1.out.A 10; have k11 : w11.cell? ⟨ga, 11, none⟩ = some (.slice none 0 0) := (blk_cell HE1.out.A 11).trans rfl; have q11 := blk_frozen HE1.out.A 11; clear hr hk)))
        have hE2 := ((HE1.out.set (cs' := #[.int .i64 4, .int .i64 0, .int .i64 0, .int .i64 0, .bool false, .int .i64 0, .int .i64 0, .int .i64 0, .int .i64 0, .string ⟨#[]⟩, .string (FR m1).1, .slice none 0 0]) g1 g2 g0 10 (.string (FR m1).1) rfl).set (cs' := #[.int .i64 4, .int .i64 0, .int .i64 0, .int .i64 0, .bool false, .int .i64 0, .int .i64 0, .int .i64 0, .int .i64 0, .string ⟨#[]⟩, .string (FR m1).1, .slice A5 (FR m1).2.1.length c5]) g1 g2 g0 11 (.slice A5 (FR m1).2.1.length c5) rfl)
        have hF6 := Kd.F_step (Kd.F_step HF5.out (fun k hk _ => Below.heap_setCell w11 ⟨ga, 10, none⟩ (.string (FR m1).1) k (by simp; omega))) (fun k hk _ => Below.heap_setCell _ ⟨ga, 11, none⟩ (.slice A5 (FR m1).2.1.length c5) k (by simp; omega))
        clear k10 q10 k11 q11
        generalize ((w11.setCell ⟨ga, 10, none⟩ (.string (FR m1).1)).setCell ⟨ga, 11, none⟩ (.slice A5 (FR m1).2.1.length c5)) = w20 at hE2 hF6 ⊢
        have HE2 := Aside0.mk hE2
        have HF6 := Aside0.mk hF6
        clear hE2 hF6
        obtain ⟨Ar, cr, h1, h2, h3⟩ := HE2.out.R.st
        cases t1 with
        | nil =>
          have r0 : w20.cell? ⟨gr, 0, none⟩ = some (.slice Ar 0 cr) := (blk_cell h1 0).trans rfl
          have kk := blk_cell HE2.out.A
          have qq := blk_frozen HE2.out.A
          have ke : w20.cell? ⟨ge, 0, none⟩ = some (.int .i64 0) := (blk_cell HE2.out.E 0).trans rfl
          have qe := blk_frozen HE2.out.E 0
          clear h1 h2 h3
          go_wp2_with (go_at_call 86; go_loud ((with_reducible refine (must_ok _).mono ?_); rintro e w'' ⟨rfl, rfl⟩))
          refine door_idle ga ge _ _ 0 (.int .i64 4) (.int .i64 0) (.int .i64 0) (.int .i64 0) (.bool false) (.int .i64 0) (.int .i64 0) (.int .i64 0) (.int .i64 0) (.string ⟨#[]⟩) (.string (FR m1).1) (.slice A5 (FR m1).2.1.length c5) _ rfl rfl (blk_far (set12_v HE2.out.A (.int .i64 4) (.int .i64 0) (.int .i64 0) (.int .i64 0) (.bool false) (.int .i64 0) (.int .i64 0) (.int .i64 0) (.int .i64 0) (.string ⟨#[]⟩) (.string (FR m1).1) (.slice A5 (FR m1).2.1.length c5)) (by show ga ≠ ge; omega) _) (blk_put ((set12_o (w := w20) (by show ge ≠ ga; omega) (.int .i64 4) (.int .i64 0) (.int .i64 0) (.int .i64 0) (.bool false) (.int .i64 0) (.int .i64 0) (.int .i64 0) (.int .i64 0) (.string ⟨#[]⟩) (.string (FR m1).1) (.slice A5 (FR m1).2.1.length c5)).trans HE2.out.E) 0 _ rfl) (post_some (a := { zA 4 with fname := (FR m1).1, nodes := (FR m1).2.1 }) (A := A5) (c := c5) (if_pos (show m1.f0 = 2 ∧ (FR m1).2.2 = 0 from ⟨HX.out, HY.out⟩)) HL5.out ?_ ?_)
          · exact Kd.F_step (Kd.F_step (HF6.out) (fun k hk _ => set12_o (by omega) (.int .i64 4) (.int .i64 0) (.int .i64 0) (.int .i64 0) (.bool false) (.int .i64 0) (.int .i64 0) (.int .i64 0) (.int .i64 0) (.string ⟨#[]⟩) (.string (FR m1).1) (.slice A5 (FR m1).2.1.length c5))) (fun k hk _ => Below.heap_setCell _ _ _ _ (by simp; omega)) |> fun h => Kd.F_mono h (fun k hk => by omega)
          · exact (set12_below HE2.out.R.hb g0 _ _ _ _ _ _ _ _ _ _ _ _).setCell (by show w.heap.size ≤ ge; omega) _
        | cons y_ t_ =>
          have r0 : w20.cell? ⟨gr, 0, none⟩ = some (.slice Ar (t_.length + 1) cr) := (blk_cell h1 0).trans rfl
          have p0 : ((t_.length : Int) + 1 == 0) = false := by rw [beq_eq_false_iff_ne]; omega
          have p1 : (((t_.length + 1 : Nat) : Int) == 0) = false := by rw [beq_eq_false_iff_ne]; omega
          clear h1 h2 h3
          go_wp2_with (go_at_call 86; go_loud ((with_reducible refine (must_bad _).mono ?_); rintro e w'' ⟨rfl, rfl⟩))
          refine door_caught ga ge _ _ 4 0 (.int .i64 4) (.int .i64 0) (.int .i64 0) (.int .i64 0) (.bool false) (.int .i64 0) (.int .i64 0) (.int .i64 0) (.int .i64 0) (.string ⟨#[]⟩) (.string (FR m1).1) (.slice A5 (FR m1).2.1.length c5) _ rfl rfl HE2.out.A HE2.out.E (post_none (rfl) ?_)
          exact (set12_below HE2.out.R.hb g0 _ _ _ _ _ _ _ _ _ _ _ _).setCell (by show w.heap.size ≤ ge; omega) _
      · have HX := Aside0.mk hx
        have HY := Aside0.mk hy
        have hg : graph_Read.f K m1.f0 m1.f1 m1.f2 m1.f3 = some ((FR m1).1, (FR m1).2.1, (FR m1).2.2) := HG.out
        have HBQ := Aside0.mk (flow_bad K m1 t1 gr w w3 HE0.out.R hx (FR m1).1 (FR m1).2.1 (FR m1).2.2 hg hy)
        clear hx hy hg
        go_wp2_with (first | (go_at_call 85; go_loud ((with_reducible refine (HBQ.out).mono ?_); rintro e wb ⟨rfl, hb, hk⟩; have HLO := Aside0.mk (HE0.out.lost g3 g2 hk); have HBB := Aside0.mk hb; clear hb hk)))
        refine door_caught ga ge _ _ 4 0 _ _ _ _ _ _ _ _ _ _ _ _ _ rfl rfl (HLO.out).1 (HLO.out).2 (post_none (by rcases t1 with _ | ⟨z0, _⟩ <;> first | rfl | exact if_neg (fun (h : m1.f0 = 2 ∧ (FR m1).2.2 = 0) => HY.out h.2)) ?_)
        exact (set12_below HBB.out g0 _ _ _ _ _ _ _ _ _ _ _ _).setCell (by show w.heap.size ≤ ge; omega) _
    · have HX := Aside0.mk hx
      have HBQ := Aside0.mk (flow_kind (m1 :: t1) gr w w3 HE0.out.R (fun y u e => by cases e; exact hx))
      clear hx
      go_wp2_with (first | (go_at_call 85; go_loud ((with_reducible refine (HBQ.out).mono ?_); rintro e wb ⟨rfl, hb, hk⟩; have HLO := Aside0.mk (HE0.out.lost g3 g2 hk); have HBB := Aside0.mk hb; clear hb hk)))
      refine door_caught ga ge _ _ 4 0 _ _ _ _ _ _ _ _ _ _ _ _ _ rfl rfl (HLO.out).1 (HLO.out).2 (post_none (by rcases t1 with _ | ⟨z0, _⟩ <;> first | rfl | exact if_neg (fun (h : m1.f0 = 2 ∧ (FR m1).2.2 = 0) => HX.out h.1)) ?_)
      exact (set12_below HBB.out g0 _ _ _ _ _ _ _ _ _ _ _ _).setCell (by show w.heap.size ≤ ge; omega) _
set_option maxHeartbeats 8000000 in
set_option maxRecDepth 100000 in
theorem read_poll (l : List V) (A : Option Addr) (c : Nat) (w : World) (hC : Kd.C k54 w A l.length l) (hc : l.length ≤ c) (FR : V → ByteArray × List A_ × Int) :
    Calls Try.prog 44 #[.int .i64 1, .slice A l.length c] w (PostR w (readA FR 1 l)) := by
  have hmf : ∀ (fn : Fn) (first cap : Array Value) (w : World), (Instr.makeFunc fn first cap).run Try.prog w = .ok (.func fn first cap) w := fun _ _ _ _ => rfl
  have hu1 := Try.underlying107
  have hu2 := Try.underlying161
  have HC := Aside0.mk hC
  have Hc := Aside0.mk hc
  clear hC hc
  go_enter_defers Try.func44, Try.ntmps44
  go_upto_region 4 with fail
  have hE := envR_start 1 l A c w HC.out Hc.out
  generalize ((w.alloc (.cells #[.int .i64 1, .int .i64 0, .int .i64 0, .int .i64 0, .bool false, .int .i64 0, .int .i64 0, .int .i64 0, .int .i64 0, .string ⟨#[]⟩, .string ⟨#[]⟩, .slice none 0 0] 107)).alloc (.cells #[.int .i64 0] 33)).alloc (.cells #[.slice A l.length c] 161) = w3 at hE ⊢
  obtain ⟨ga, hga⟩ : ∃ g, w.heap.size = g := ⟨_, rfl⟩
  obtain ⟨ge, hge⟩ : ∃ g, ga + 1 = g := ⟨_, rfl⟩
  obtain ⟨gr, hgr⟩ : ∃ g, ge + 1 = g := ⟨_, rfl⟩
  rw [hga, hge, hgr] at hE ⊢
  have g0 : w.heap.size ≤ ga := Nat.le_of_eq hga
  have g1 : ga < ge := by omega
  have g2 : ge < gr := by omega
  have g3 : ga < gr := by omega
  have HE0 := Aside0.mk hE
  clear hga hge hgr hE HC Hc
  go_upto_region 22 with (first | (go_at_call 86; go_loud ((with_reducible refine (must_ok _).mono ?_); rintro e w'' ⟨rfl, rfl⟩)))
  obtain ⟨Ar, cr, h1, h2, h3⟩ := HE0.out.R.st
  cases l with
  | nil =>
    have r0 : w3.cell? ⟨gr, 0, none⟩ = some (.slice Ar 0 cr) := (blk_cell h1 0).trans rfl
    have kk := blk_cell HE0.out.A
    have qq := blk_frozen HE0.out.A
    have ke : w3.cell? ⟨ge, 0, none⟩ = some (.int .i64 0) := (blk_cell HE0.out.E 0).trans rfl
    have qe := blk_frozen HE0.out.E 0
    clear h1 h2 h3
    go_wp2_with (go_at_call 86; go_loud ((with_reducible refine (must_ok _).mono ?_); rintro e w'' ⟨rfl, rfl⟩))
    refine door_idle ga ge _ _ 0 (.int .i64 1) (.int .i64 0) (.int .i64 0) (.int .i64 0) (.bool false) (.int .i64 0) (.int .i64 0) (.int .i64 0) (.int .i64 0) (.string ⟨#[]⟩) (.string ⟨#[]⟩) (.slice none 0 0) _ rfl rfl (blk_far (set12_v HE0.out.A (.int .i64 1) (.int .i64 0) (.int .i64 0) (.int .i64 0) (.bool false) (.int .i64 0) (.int .i64 0) (.int .i64 0) (.int .i64 0) (.string ⟨#[]⟩) (.string ⟨#[]⟩) (.slice none 0 0)) (by show ga ≠ ge; omega) _) (blk_put ((set12_o (w := w3) (by show ge ≠ ga; omega) (.int .i64 1) (.int .i64 0) (.int .i64 0) (.int .i64 0) (.bool false) (.int .i64 0) (.int .i64 0) (.int .i64 0) (.int .i64 0) (.string ⟨#[]⟩) (.string ⟨#[]⟩) (.slice none 0 0)).trans HE0.out.E) 0 _ rfl) (post_some (a := zA 1) (A := none) (c := 0) (rfl) (Nat.le_refl _) (Kd.F_nil _ _ _) ?_)
    exact (set12_below HE0.out.R.hb g0 _ _ _ _ _ _ _ _ _ _ _ _).setCell (by show w.heap.size ≤ ge; omega) _
  | cons y_ t_ =>
    have r0 : w3.cell? ⟨gr, 0, none⟩ = some (.slice Ar (t_.length + 1) cr) := (blk_cell h1 0).trans rfl
    have p0 : ((t_.length : Int) + 1 == 0) = false := by rw [beq_eq_false_iff_ne]; omega
    have p1 : (((t_.length + 1 : Nat) : Int) == 0) = false := by rw [beq_eq_false_iff_ne]; omega
    clear h1 h2 h3
    go_wp2_with (go_at_call 86; go_loud ((with_reducible refine (must_bad _).mono ?_); rintro e w'' ⟨rfl, rfl⟩))
    refine door_caught ga ge _ _ 4 0 (.int .i64 1) (.int .i64 0) (.int .i64 0) (.int .i64 0) (.bool false) (.int .i64 0) (.int .i64 0) (.int .i64 0) (.int .i64 0) (.string ⟨#[]⟩) (.string ⟨#[]⟩) (.slice none 0 0) _ rfl rfl HE0.out.A HE0.out.E (post_none (rfl) ?_)
    exact (set12_below HE0.out.R.hb g0 _ _ _ _ _ _ _ _ _ _ _ _).setCell (by show w.heap.size ≤ ge; omega) _
set_option maxHeartbeats 8000000 in
set_option maxRecDepth 100000 in
theorem read_revoke (l : List V) (A : Option Addr) (c : Nat) (w : World) (hC : Kd.C k54 w A l.length l) (hc : l.length ≤ c) (FR : V → ByteArray × List A_ × Int) :
    Calls Try.prog 44 #[.int .i64 7, .slice A l.length c] w (PostR w (readA FR 7 l)) := by
  have hmf : ∀ (fn : Fn) (first cap : Array Value) (w : World), (Instr.makeFunc fn first cap).run Try.prog w = .ok (.func fn first cap) w := fun _ _ _ _ => rfl
  have hu1 := Try.underlying107
  have hu2 := Try.underlying161
  have HC := Aside0.mk hC
  have Hc := Aside0.mk hc
  clear hC hc
  go_enter_defers Try.func44, Try.ntmps44
  go_upto_region 4 with fail
  have hE := envR_start 7 l A c w HC.out Hc.out
  generalize ((w.alloc (.cells #[.int .i64 7, .int .i64 0, .int .i64 0, .int .i64 0, .bool false, .int .i64 0, .int .i64 0, .int .i64 0, .int .i64 0, .string ⟨#[]⟩, .string ⟨#[]⟩, .slice none 0 0] 107)).alloc (.cells #[.int .i64 0] 33)).alloc (.cells #[.slice A l.length c] 161) = w3 at hE ⊢
  obtain ⟨ga, hga⟩ : ∃ g, w.heap.size = g := ⟨_, rfl⟩
  obtain ⟨ge, hge⟩ : ∃ g, ga + 1 = g := ⟨_, rfl⟩
  obtain ⟨gr, hgr⟩ : ∃ g, ge + 1 = g := ⟨_, rfl⟩
  rw [hga, hge, hgr] at hE ⊢
  have g0 : w.heap.size ≤ ga := Nat.le_of_eq hga
  have g1 : ga < ge := by omega
  have g2 : ge < gr := by omega
  have g3 : ga < gr := by omega
  have HE0 := Aside0.mk hE
  clear hga hge hgr hE HC Hc
  go_upto_region 22 with (first | (go_at_call 86; go_loud ((with_reducible refine (must_ok _).mono ?_); rintro e w'' ⟨rfl, rfl⟩)))
  obtain ⟨Ar, cr, h1, h2, h3⟩ := HE0.out.R.st
  cases l with
  | nil =>
    have r0 : w3.cell? ⟨gr, 0, none⟩ = some (.slice Ar 0 cr) := (blk_cell h1 0).trans rfl
    have kk := blk_cell HE0.out.A
    have qq := blk_frozen HE0.out.A
    have ke : w3.cell? ⟨ge, 0, none⟩ = some (.int .i64 0) := (blk_cell HE0.out.E 0).trans rfl
    have qe := blk_frozen HE0.out.E 0
    clear h1 h2 h3
    go_wp2_with (go_at_call 86; go_loud ((with_reducible refine (must_ok _).mono ?_); rintro e w'' ⟨rfl, rfl⟩))
    refine door_idle ga ge _ _ 0 (.int .i64 7) (.int .i64 0) (.int .i64 0) (.int .i64 0) (.bool false) (.int .i64 0) (.int .i64 0) (.int .i64 0) (.int .i64 0) (.string ⟨#[]⟩) (.string ⟨#[]⟩) (.slice none 0 0) _ rfl rfl (blk_far (set12_v HE0.out.A (.int .i64 7) (.int .i64 0) (.int .i64 0) (.int .i64 0) (.bool false) (.int .i64 0) (.int .i64 0) (.int .i64 0) (.int .i64 0) (.string ⟨#[]⟩) (.string ⟨#[]⟩) (.slice none 0 0)) (by show ga ≠ ge; omega) _) (blk_put ((set12_o (w := w3) (by show ge ≠ ga; omega) (.int .i64 7) (.int .i64 0) (.int .i64 0) (.int .i64 0) (.bool false) (.int .i64 0) (.int .i64 0) (.int .i64 0) (.int .i64 0) (.string ⟨#[]⟩) (.string ⟨#[]⟩) (.slice none 0 0)).trans HE0.out.E) 0 _ rfl) (post_some (a := zA 7) (A := none) (c := 0) (rfl) (Nat.le_refl _) (Kd.F_nil _ _ _) ?_)
    exact (set12_below HE0.out.R.hb g0 _ _ _ _ _ _ _ _ _ _ _ _).setCell (by show w.heap.size ≤ ge; omega) _
  | cons y_ t_ =>
    have r0 : w3.cell? ⟨gr, 0, none⟩ = some (.slice Ar (t_.length + 1) cr) := (blk_cell h1 0).trans rfl
    have p0 : ((t_.length : Int) + 1 == 0) = false := by rw [beq_eq_false_iff_ne]; omega
    have p1 : (((t_.length + 1 : Nat) : Int) == 0) = false := by rw [beq_eq_false_iff_ne]; omega
    clear h1 h2 h3
    go_wp2_with (go_at_call 86; go_loud ((with_reducible refine (must_bad _).mono ?_); rintro e w'' ⟨rfl, rfl⟩))
    refine door_caught ga ge _ _ 4 0 (.int .i64 7) (.int .i64 0) (.int .i64 0) (.int .i64 0) (.bool false) (.int .i64 0) (.int .i64 0) (.int .i64 0) (.int .i64 0) (.string ⟨#[]⟩) (.string ⟨#[]⟩) (.slice none 0 0) _ rfl rfl HE0.out.A HE0.out.E (post_none (rfl) ?_)
    exact (set12_below HE0.out.R.hb g0 _ _ _ _ _ _ _ _ _ _ _ _).setCell (by show w.heap.size ≤ ge; omega) _
set_option maxHeartbeats 8000000 in
set_option maxRecDepth 100000 in
theorem read_none (l : List V) (A : Option Addr) (c : Nat) (w : World) (hC : Kd.C k54 w A l.length l) (hc : l.length ≤ c) (FR : V → ByteArray × List A_ × Int) (o : Int) (ho : o ≠ 0 ∧ o ≠ 1 ∧ o ≠ 2 ∧ o ≠ 3 ∧ o ≠ 4 ∧ o ≠ 5 ∧ o ≠ 6 ∧ o ≠ 7 ∧ o ≠ 8 ∧ o ≠ 9) :
    Calls Try.prog 44 #[.int .i64 o, .slice A l.length c] w (PostR w (readA FR o l)) := by
  have HNO := Aside0.mk (show readA FR o l = none by
    unfold readA
    rw [if_neg ho.1, if_neg (by rintro (h | h) <;> omega), if_neg ho.2.2.1, if_neg ho.2.2.2.1, if_neg ho.2.2.2.2.1, if_neg ho.2.2.2.2.2.1, if_neg ho.2.2.2.2.2.2.1, if_neg (by rintro (h | h) <;> omega)])
  have HO := Aside0.mk ho
  clear ho
  have hmf : ∀ (fn : Fn) (first cap : Array Value) (w : World), (Instr.makeFunc fn first cap).run Try.prog w = .ok (.func fn first cap) w := fun _ _ _ _ => rfl
  have hu1 := Try.underlying107
  have hu2 := Try.underlying161
  have HC := Aside0.mk hC
  have Hc := Aside0.mk hc
  clear hC hc
  go_enter_defers Try.func44, Try.ntmps44
  go_upto_region 4 with fail
  have hE := envR_start o l A c w HC.out Hc.out
  generalize ((w.alloc (.cells #[.int .i64 o, .int .i64 0, .int .i64 0, .int .i64 0, .bool false, .int .i64 0, .int .i64 0, .int .i64 0, .int .i64 0, .string ⟨#[]⟩, .string ⟨#[]⟩, .slice none 0 0] 107)).alloc (.cells #[.int .i64 0] 33)).alloc (.cells #[.slice A l.length c] 161) = w3 at hE ⊢
  obtain ⟨ga, hga⟩ : ∃ g, w.heap.size = g := ⟨_, rfl⟩
  obtain ⟨ge, hge⟩ : ∃ g, ga + 1 = g := ⟨_, rfl⟩
  obtain ⟨gr, hgr⟩ : ∃ g, ge + 1 = g := ⟨_, rfl⟩
  rw [hga, hge, hgr] at hE ⊢
  have g0 : w.heap.size ≤ ga := Nat.le_of_eq hga
  have g1 : ga < ge := by omega
  have g2 : ge < gr := by omega
  have HE0 := Aside0.mk hE
  clear hga hge hgr hE HC Hc
  have o0 : (o == 0) = false := beq_eq_false_iff_ne.2 HO.out.1
  have o1 : (o == 1) = false := beq_eq_false_iff_ne.2 HO.out.2.1
  have o2 : (o == 2) = false := beq_eq_false_iff_ne.2 HO.out.2.2.1
  have o3 : (o == 3) = false := beq_eq_false_iff_ne.2 HO.out.2.2.2.1
  have o4 : (o == 4) = false := beq_eq_false_iff_ne.2 HO.out.2.2.2.2.1
  have o5 : (o == 5) = false := beq_eq_false_iff_ne.2 HO.out.2.2.2.2.2.1
  have o6 : (o == 6) = false := beq_eq_false_iff_ne.2 HO.out.2.2.2.2.2.2.1
  have o7 : (o == 7) = false := beq_eq_false_iff_ne.2 HO.out.2.2.2.2.2.2.2.1
  have o8 : (o == 8) = false := beq_eq_false_iff_ne.2 HO.out.2.2.2.2.2.2.2.2.1
  have o9 : (o == 9) = false := beq_eq_false_iff_ne.2 HO.out.2.2.2.2.2.2.2.2.2
  go_wp2_with (first | (go_at_call 86; go_loud ((with_reducible refine (must_bad _).mono ?_); rintro e w'' ⟨rfl, rfl⟩)))
  refine door_caught ga ge _ _ 4 0 _ _ _ _ _ _ _ _ _ _ _ _ _ rfl rfl HE0.out.A HE0.out.E (post_none HNO.out ?_)
  exact (set12_below HE0.out.R.hb g0 _ _ _ _ _ _ _ _ _ _ _ _).setCell (by show w.heap.size ≤ ge; omega) _
/-- op.Read: what values ask for, of every op -/
theorem read_all (o : Int) (l : List V) (A : Option Addr) (c : Nat) (w : World) (hC : Kd.C k54 w A l.length l) (hc : l.length ≤ c) (FR : V → ByteArray × List A_ × Int) (K : Nat) (hFR : ∀ x ∈ l, graph_Read.f K x.f0 x.f1 x.f2 x.f3 = some (FR x)) :
    Calls Try.prog 44 #[.int .i64 o, .slice A l.length c] w (PostR w (readA FR o l)) := by
  by_cases h0 : o = 0
  · subst h0; exact read_query l A c w hC hc FR
  by_cases h1 : o = 1
  · subst h1; exact read_poll l A c w hC hc FR
  by_cases h2 : o = 2
  · subst h2; exact read_complete l A c w hC hc FR
  by_cases h3 : o = 3
  · subst h3; exact read_start l A c w hC hc FR
  by_cases h4 : o = 4
  · subst h4; exact read_define l A c w hC hc FR K hFR
  by_cases h5 : o = 5
  · subst h5; exact read_mint l A c w hC hc FR
  by_cases h6 : o = 6
  · subst h6; exact read_assign l A c w hC hc FR
  by_cases h7 : o = 7
  · subst h7; exact read_revoke l A c w hC hc FR
  by_cases h8 : o = 8
  · subst h8; exact read_grant l A c w hC hc FR
  by_cases h9 : o = 9
  · subst h9; exact read_ungrant l A c w hC hc FR
  exact read_none l A c w hC hc FR o ⟨h0, h1, h2, h3, h4, h5, h6, h7, h8, h9⟩
end Go.Proofs.Ytjicfkmpgogppaa.Or
namespace Go.Proofs.Ytjicfkmpgogppaa.Or
set_option linter.unusedVariables false
set_option linter.unusedSimpArgs false
open Go Go.RowKit Go.Proofs.Ytjicfkmpgogppaa.Vs Go.Proofs.Ytjicfkmpgogppaa.PA Go.Proofs.YtjicfkmpgogppaaW.PrintWords Go.Proofs.YtjicfkmpgogppaaW.PrintLast Go.Proofs.YtjicfkmpgogppaaW.PrintMore
def limV (v : V) : Bool := decide (v.f3.length ≤ 1000000) && v.f3.all fun x => decide (x.f3.length ≤ 1000000) && x.f3.all fun y => y.f3.all fun z => decide (z.f3.length ≤ 1000000)
theorem limV_iff (v : V) : limV v = true ↔ v.f3.length ≤ 1000000 ∧ ∀ x ∈ v.f3, x.f3.length ≤ 1000000 ∧ ∀ y ∈ x.f3, ∀ z ∈ y.f3, z.f3.length ≤ 1000000 := by
  unfold limV
  simp only [Bool.and_eq_true, List.all_eq_true, decide_eq_true_iff]
theorem reads_all (l : List V) (h : ∀ x ∈ l, limV x = true) : ∃ K, ∀ x ∈ l, graph_Read.f K x.f0 x.f1 x.f2 x.f3 = some (Gv.flowR x) := by
  refine up_all (Q := fun K x => graph_Read.f K x.f0 x.f1 x.f2 x.f3 = some (Gv.flowR x)) (fun K K' x hk e => up_le (fun k => graph_Read.mono _ _ _ _ k) hk e) l (fun x hx => ?_)
  obtain ⟨K0, h0⟩ := Gv.read_some x ((limV_iff x).1 (h x hx))
  exact ⟨K0, h0 K0 (Nat.le_refl _)⟩
end Go.Proofs.Ytjicfkmpgogppaa.Or
namespace Go.Proofs.Ytjicfkmpgogppaa.Ap
set_option linter.unusedVariables false
set_option linter.unusedSimpArgs false
open Go Go.RowKit Go.Proofs.Ytjicfkmpgogppaa.Plain Go.Proofs.Ytjicfkmpgogppaa.Vs Go.Proofs.Ytjicfkmpgogppaa.Sh Go.Proofs.Ytjicfkmpgogppaa.PA Go.Proofs.YtjicfkmpgogppaaW.PrintWords Go.Proofs.YtjicfkmpgogppaaW.PrintLast Go.Proofs.YtjicfkmpgogppaaW.PrintMore
open Go.Proofs.Ytjicfkmpgogppaa.Gv (strV numV allV nodeV flowV flowR A_ E0)
open Go.Proofs.Ytjicfkmpgogppaa.Vw (strW numW allW nodeW B_)
open Go.Proofs.Ytjicfkmpgogppaa.Or (AskT zA cellsA readA PostR)
open Go.Proofs.Ytjicfkmpgogppaa.Rr (AskB zB cellsB mkB okB PostB kindsB fitsB)
abbrev kA := k48
abbrev kB := k125
abbrev askCells (a : AskT) (u : Value) : Array Value := #[.int .i64 a.op, .int .i64 a.run, .int .i64 a.node, .int .i64 a.tries, .bool a.okf, .int .i64 a.person, .int .i64 a.role, .int .i64 a.till, .int .i64 a.caller, .string a.name, .string a.fname, u]
/-- what is asked with -/
def argsV (a : AskT) : List V := if a.op = 0 then [numV a.run] else if a.op = 2 then [numV a.run, numV a.node, numV a.tries, numV (if a.okf = true then 1 else 0)] else if a.op = 3 then [strV a.name] else if a.op = 4 then [flowV a.fname a.nodes] else if a.op = 5 then [numV a.person, numV a.till] else if a.op = 6 then [numV a.person, numV a.role] else if a.op = 8 ∨ a.op = 9 then [numV a.caller, strV a.name] else []
def toB (x : A_) : B_ := ⟨x.f0, x.f1, x.f2, x.f3, x.f4, x.f5⟩
end Go.Proofs.Ytjicfkmpgogppaa.Ap
namespace Go.Proofs.Ytjicfkmpgogppaa.Ap
set_option linter.unusedVariables false
set_option linter.unusedSimpArgs false
open Go Go.RowKit Go.Proofs.Ytjicfkmpgogppaa.Plain Go.Proofs.Ytjicfkmpgogppaa.Vs Go.Proofs.Ytjicfkmpgogppaa.Sh Go.Proofs.Ytjicfkmpgogppaa.PA Go.Proofs.YtjicfkmpgogppaaW.PrintWords Go.Proofs.YtjicfkmpgogppaaW.PrintLast Go.Proofs.YtjicfkmpgogppaaW.PrintMore
open Go.Proofs.Ytjicfkmpgogppaa.Gv (strV numV allV nodeV flowV flowR A_ E0)
open Go.Proofs.Ytjicfkmpgogppaa.Vw (strW numW allW nodeW B_)
open Go.Proofs.Ytjicfkmpgogppaa.Or (AskT zA cellsA readA PostR inr)
open Go.Proofs.Ytjicfkmpgogppaa.Rr (AskB zB cellsB mkB okB PostB kindsB fitsB)
/-- what values ask for, or nothing -/
def resA (o : Int) (l : List V) : AskT := (readA flowR o l).getD (zA 0)
def errA (o : Int) (l : List V) : Int := if (readA flowR o l).isSome = true then 0 else 4
/-- all numbers, texts and workflows in these values are within bounds -/
theorem read_V (o : Int) (l : List V) (A : Option Addr) (c : Nat) (w : World) (hC : Kd.C k54 w A l.length l) (hc : l.length ≤ c) (hs : ∀ x ∈ l, Small x) :
    Calls Try.prog 44 #[.int .i64 o, .slice A l.length c] w fun e w' => ∃ A1 c1, e = .returned (.tuple #[.agg (askCells (resA o l) (.slice A1 (resA o l).nodes.length c1)), .int .i64 (errA o l)]) ∧ (resA o l).nodes.length ≤ c1 ∧ Kd.F kA w' (fun k => w.heap.size ≤ k) A1 (resA o l).nodes.length (resA o l).nodes ∧ Bl w w' := by
  obtain ⟨K, hK⟩ := Or.reads_all l (fun x hx => (Or.limV_iff x).2 (Gv.small_lim (hs x hx)))
  refine (Or.read_all o l A c w hC hc flowR K hK).mono fun e w' hp => ?_
  unfold resA errA
  cases hr : readA flowR o l with
  | none =>
    rw [hr] at hp
    exact ⟨none, 0, hp.1, Nat.le_refl _, Kd.F_nil _ _ _, hp.2⟩
  | some a =>
    rw [hr] at hp
    obtain ⟨A1, c1, h1, h2, h3, h4⟩ := hp
    exact ⟨A1, c1, h1, h2, h3, h4⟩
end Go.Proofs.Ytjicfkmpgogppaa.Ap
namespace Go.Proofs.Ytjicfkmpgogppaa.Ap
set_option linter.unusedVariables false
set_option linter.unusedSimpArgs false
open Go Go.RowKit Go.Proofs.Ytjicfkmpgogppaa.Plain Go.Proofs.Ytjicfkmpgogppaa.Vs Go.Proofs.Ytjicfkmpgogppaa.PA Go.Proofs.YtjicfkmpgogppaaW.PrintWords Go.Proofs.YtjicfkmpgogppaaW.PrintLast Go.Proofs.YtjicfkmpgogppaaW.PrintMore
open Go.Proofs.Ytjicfkmpgogppaa.Gv (strV numV allV nodeV flowV flowR A_ E0 shapedB textsB at_ nodeR nodesR inr nodesR_lim)
open Go.Proofs.Ytjicfkmpgogppaa.Vw (strW numW allW nodeW B_)
theorem shaped_toW (k : Int) (l : List V) (ks : List Int) : Rw.shapedW k (toWs l) ks = shapedB k l ks := by
  unfold Rw.shapedW shapedB
  rw [decide_eq_decide, toWs_map, List.map_map]
  have e : l.map ((fun x : Vs.W => x.f0) ∘ toW) = l.map (·.f0) := List.map_congr_left fun x _ => toW_0 x
  rw [e]
theorem texts_toW (l : List V) : Rw.textsW (toWs l) = textsB l := by
  unfold Rw.textsW textsB
  rw [toWs_map, List.all_map]
  congr 1
  funext x
  show ((toW x).f0 == 1) = _
  rw [toW_0]
theorem at_toW (v : V) (i : Nat) : Rw.atW (toW v) i = toW (at_ v i) := by
  show (toW v).f3.getD i _ = toW (v.f3.getD i _)
  rw [toW_3, toWs_map, List.getD_eq_getElem?_getD, List.getElem?_map, List.getD_eq_getElem?_getD]
  cases v.f3[i]? with
  | none => rfl
  | some x => rfl
theorem node_toW (v : V) : Rw.nodeRW (toW v) = (nodeR v).map toB := by
  unfold Rw.nodeRW nodeR
  rw [toW_0, toW_3, shaped_toW, at_toW, at_toW, at_toW, at_toW, at_toW, at_toW, toW_1, toW_1, toW_1, toW_2, toW_2, toW_3, texts_toW]
  have e : (toWs (at_ v 1).f3).map (fun x : Vs.W => x.f2) = (at_ v 1).f3.map (·.f2) := by
    rw [toWs_map, List.map_map]
    exact List.map_congr_left fun x _ => toW_2 x
  rw [e]
  have e2 : Rw.inr = inr := rfl
  rw [e2]
  split
  · split
    · split <;> rfl
    · rfl
  · rfl
theorem nodes_toW : ∀ l : List V, Rw.nodesRW (toWs l) = (nodesR l).map (·.map toB)
  | [] => rfl
  | x :: l => by
    rw [toWs, Rw.nodesRW, nodesR, node_toW, nodes_toW l]
    cases nodeR x with
    | none => rfl
    | some y =>
      cases nodesR l with
      | none => rfl
      | some r => rfl
theorem flow_toW (v : V) : Rw.flowRW (toW v) = ((flowR v).1, (flowR v).2.1.map toB, (flowR v).2.2) := by
  unfold Rw.flowRW flowR
  rw [toW_0, toW_3, shaped_toW, at_toW, at_toW, toW_2, toW_3, nodes_toW]
  split
  · cases nodesR (at_ v 1).f3 with
    | none => rfl
    | some r => rfl
  · rfl
theorem flowR_kind {v : V} (h : (flowR v).2.2 = 0) : v.f0 = 2 := by
  unfold flowR at h
  by_cases hs : shapedB v.f0 v.f3 [1, 2] = true
  · exact (of_decide_eq_true hs).1
  · rw [if_neg hs] at h; cases h
theorem small_str (s : ByteArray) : Small (strV s) := by rw [Small_eq]; simp [strV]
theorem small_num (n : Int) : Small (numV n) := by rw [Small_eq]; simp [numV]
theorem small_all {l : List V} (hl : l.length ≤ 1000) (h : ∀ x ∈ l, Small x) : Small (allV l) := by rw [Small_eq]; exact ⟨hl, h⟩
theorem small_node {x : A_} (h : x.f1.length ≤ 1000) : Small (nodeV x) := by
  refine small_all (by simp) (fun y hy => ?_)
  simp only [List.mem_cons, List.not_mem_nil, or_false] at hy
  rcases hy with rfl | rfl | rfl | rfl | rfl | rfl
  · exact small_str _
  · refine small_all (by rw [List.length_map]; exact h) (fun z hz => ?_)
    obtain ⟨s, _, rfl⟩ := List.mem_map.1 hz
    exact small_str _
  · exact small_num _
  · exact small_num _
  · exact small_num _
  · exact small_str _
theorem small_flow {nm : ByteArray} {l : List A_} (hl : l.length ≤ 1000) (h : ∀ x ∈ l, x.f1.length ≤ 1000) : Small (flowV nm l) := by
  refine small_all (by simp) (fun y hy => ?_)
  simp only [List.mem_cons, List.not_mem_nil, or_false] at hy
  rcases hy with rfl | rfl
  · exact small_str _
  · refine small_all (by rw [List.length_map]; exact hl) (fun z hz => ?_)
    obtain ⟨x, hx, rfl⟩ := List.mem_map.1 hz
    exact small_node (h x hx)
end Go.Proofs.Ytjicfkmpgogppaa.Ap
namespace Go.Proofs.Ytjicfkmpgogppaa.Ap
set_option linter.unusedVariables false
set_option linter.unusedSimpArgs false
open Go Go.RowKit Go.Proofs.Ytjicfkmpgogppaa.Plain Go.Proofs.Ytjicfkmpgogppaa.Vs Go.Proofs.Ytjicfkmpgogppaa.Sh Go.Proofs.Ytjicfkmpgogppaa.PA Go.Proofs.YtjicfkmpgogppaaW.PrintWords Go.Proofs.YtjicfkmpgogppaaW.PrintLast Go.Proofs.YtjicfkmpgogppaaW.PrintMore
open Go.Proofs.Ytjicfkmpgogppaa.Gv (strV numV allV nodeV flowV flowR A_ E0)
open Go.Proofs.Ytjicfkmpgogppaa.Vw (strW numW allW nodeW B_)
open Go.Proofs.Ytjicfkmpgogppaa.Or (AskT zA cellsA readA PostR inr)
open Go.Proofs.Ytjicfkmpgogppaa.Rr (AskB zB cellsB mkB okB PostB kindsB fitsB)
def toAskB (a : AskT) : AskB := ⟨a.op, a.run, a.node, a.tries, a.okf, a.person, a.role, a.till, a.caller, a.name, a.fname, a.nodes.map toB⟩
/-- each value fits its kind -/
def fitAll : List UInt8 → List W → Prop
  | [], [] => True
  | k :: ks, x :: xs => fitsB k x = true ∧ fitAll ks xs
  | _, _ => False
theorem fitAll_iff : ∀ (ks : List UInt8) (l : List W), fitAll ks l ↔ (ks.length = l.length ∧ ∀ j, j < l.length → fitsB (ks.getD j 0) (Rr.at_ l j) = true)
  | [], [] => by simp [fitAll]
  | [], x :: l => by simp [fitAll]
  | k :: ks, [] => by simp [fitAll]
  | k :: ks, x :: l => by
    rw [fitAll, fitAll_iff ks l]
    constructor
    · rintro ⟨h1, h2, h3⟩
      refine ⟨by simp [h2], fun j hj => ?_⟩
      cases j with
      | zero => exact h1
      | succ j => exact h3 j (by simpa using hj)
    · rintro ⟨h1, h2⟩
      exact ⟨h2 0 (by simp), by simpa using h1, fun j hj => h2 (j + 1) (by simpa using hj)⟩
theorem okB_iff (o : Int) (l : List W) : okB o l ↔ kindsB o ≠ [45] ∧ fitAll (kindsB o) l := by rw [fitAll_iff]; exact Iff.rfl
theorem fit_l (x : V) : fitsB 108 (toW x) = (x.f0 == 0) := by show ((toW x).f0 == 0) = _; rw [toW_0]
theorem fit_s (x : V) : fitsB 115 (toW x) = true ↔ x.f0 = 0 ∧ inr x.f1 = true := by
  show decide ((toW x).f0 = 0 ∧ Rw.inr (toW x).f1 = true) = true ↔ _
  rw [decide_eq_true_iff, toW_0, toW_1]
  exact Iff.rfl
theorem fit_f (x : V) : fitsB 102 (toW x) = true ↔ x.f0 = 0 ∧ (x.f1 = 0 ∨ x.f1 = 1) := by
  show decide ((toW x).f0 = 0 ∧ ((toW x).f1 = 0 ∨ (toW x).f1 = 1)) = true ↔ _
  rw [decide_eq_true_iff, toW_0, toW_1]
theorem fit_t (x : V) : fitsB 116 (toW x) = (x.f0 == 1) := by show ((toW x).f0 == 1) = _; rw [toW_0]
theorem fit_w (x : V) : fitsB 119 (toW x) = true ↔ x.f0 = 2 ∧ (flowR x).2.2 = 0 := by
  show ((Rw.flowRW (toW x)).2.2 == 0) = true ↔ _
  rw [flow_toW, beq_iff_eq]
  exact ⟨fun h => ⟨flowR_kind h, h⟩, fun h => h.2⟩
/-- the document's reading of the same values -/
def Rel (o : Int) (l : List V) : Prop := match readA flowR o l with
  | some a => okB o (toWs l) ∧ mkB o (toWs l) = toAskB a
  | none => ¬ okB o (toWs l)
theorem rel (o : Int) (l : List V) : Rel o l := by
  unfold Rel
  rw [okB_iff]
  by_cases h0 : o = 0
  · subst h0
    match l with
    | [] => simp [readA, kindsB, fitAll, toWs]
    | [x0] =>
      by_cases h : x0.f0 = 0
      · simp [readA, kindsB, fitAll, toWs, fit_l, h, mkB, toAskB, zA, zB, toW_1, toW_2]
      · simp [readA, kindsB, fitAll, toWs, fit_l, h]
    | x0 :: y :: t => simp [readA, kindsB, fitAll, toWs]
  by_cases h2 : o = 2
  · subst h2
    match l with
    | [] => simp [readA, kindsB, fitAll, toWs]
    | [x0] => simp [readA, kindsB, fitAll, toWs]
    | [x0, x1] => simp [readA, kindsB, fitAll, toWs]
    | [x0, x1, x2] => simp [readA, kindsB, fitAll, toWs]
    | [x0, x1, x2, x3] =>
      by_cases h : x0.f0 = 0 ∧ x1.f0 = 0 ∧ inr x1.f1 = true ∧ x2.f0 = 0 ∧ inr x2.f1 = true ∧ x3.f0 = 0 ∧ (x3.f1 = 0 ∨ x3.f1 = 1)
      · simp [readA, kindsB, fitAll, toWs, fit_l, fit_s, fit_f, h, mkB, toAskB, zA, zB, toW_1, toW_2]
      · have e : ¬ (x0.f0 = 0 ∧ x1.f0 = 0 ∧ inr x1.f1 = true ∧ x2.f0 = 0 ∧ inr x2.f1 = true ∧ x3.f0 = 0 ∧ (x3.f1 = 0 ∨ x3.f1 = 1)) := h
        simp [readA, kindsB, fitAll, toWs, fit_l, fit_s, fit_f, e]
        simpa using h
    | x0 :: x1 :: x2 :: x3 :: y :: t => simp [readA, kindsB, fitAll, toWs]
  by_cases h3 : o = 3
  · subst h3
    match l with
    | [] => simp [readA, kindsB, fitAll, toWs]
    | [x0] =>
      by_cases h : x0.f0 = 1
      · simp [readA, kindsB, fitAll, toWs, fit_t, h, mkB, toAskB, zA, zB, toW_1, toW_2]
      · simp [readA, kindsB, fitAll, toWs, fit_t, h]
    | x0 :: y :: t => simp [readA, kindsB, fitAll, toWs]
  by_cases h4 : o = 4
  · subst h4
    match l with
    | [] => simp [readA, kindsB, fitAll, toWs]
    | [x0] =>
      by_cases h : x0.f0 = 2 ∧ (flowR x0).2.2 = 0
      · simp [readA, kindsB, fitAll, toWs, fit_w, flow_toW, h, mkB, toAskB, zA, zB, toW_1, toW_2]
      · simp [readA, kindsB, fitAll, toWs, fit_w, flow_toW, h]
    | x0 :: y :: t => simp [readA, kindsB, fitAll, toWs]
  by_cases h5 : o = 5
  · subst h5
    match l with
    | [] => simp [readA, kindsB, fitAll, toWs]
    | [x0] => simp [readA, kindsB, fitAll, toWs]
    | [x0, x1] =>
      by_cases h : x0.f0 = 0 ∧ inr x0.f1 = true ∧ x1.f0 = 0
      · simp [readA, kindsB, fitAll, toWs, fit_s, fit_l, h, mkB, toAskB, zA, zB, toW_1, toW_2]
      · have e : ¬ (x0.f0 = 0 ∧ inr x0.f1 = true ∧ x1.f0 = 0) := h
        simp [readA, kindsB, fitAll, toWs, fit_s, fit_l, e]
        simpa using h
    | x0 :: x1 :: y :: t => simp [readA, kindsB, fitAll, toWs]
  by_cases h6 : o = 6
  · subst h6
    match l with
    | [] => simp [readA, kindsB, fitAll, toWs]
    | [x0] => simp [readA, kindsB, fitAll, toWs]
    | [x0, x1] =>
      by_cases h : x0.f0 = 0 ∧ inr x0.f1 = true ∧ x1.f0 = 0 ∧ inr x1.f1 = true
      · simp [readA, kindsB, fitAll, toWs, fit_s, h, mkB, toAskB, zA, zB, toW_1, toW_2]
      · have e : ¬ (x0.f0 = 0 ∧ inr x0.f1 = true ∧ x1.f0 = 0 ∧ inr x1.f1 = true) := h
        simp [readA, kindsB, fitAll, toWs, fit_s, e]
        simpa using h
    | x0 :: x1 :: y :: t => simp [readA, kindsB, fitAll, toWs]
  by_cases h8 : o = 8
  · subst h8
    match l with
    | [] => simp [readA, kindsB, fitAll, toWs]
    | [x0] => simp [readA, kindsB, fitAll, toWs]
    | [x0, x1] =>
      by_cases h : x0.f0 = 0 ∧ inr x0.f1 = true ∧ x1.f0 = 1
      · simp [readA, kindsB, fitAll, toWs, fit_s, fit_t, h, mkB, toAskB, zA, zB, toW_1, toW_2]
      · have e : ¬ (x0.f0 = 0 ∧ inr x0.f1 = true ∧ x1.f0 = 1) := h
        simp [readA, kindsB, fitAll, toWs, fit_s, fit_t, e]
        simpa using h
    | x0 :: x1 :: y :: t => simp [readA, kindsB, fitAll, toWs]
  by_cases h9 : o = 9
  · subst h9
    match l with
    | [] => simp [readA, kindsB, fitAll, toWs]
    | [x0] => simp [readA, kindsB, fitAll, toWs]
    | [x0, x1] =>
      by_cases h : x0.f0 = 0 ∧ inr x0.f1 = true ∧ x1.f0 = 1
      · simp [readA, kindsB, fitAll, toWs, fit_s, fit_t, h, mkB, toAskB, zA, zB, toW_1, toW_2]
      · have e : ¬ (x0.f0 = 0 ∧ inr x0.f1 = true ∧ x1.f0 = 1) := h
        simp [readA, kindsB, fitAll, toWs, fit_s, fit_t, e]
        simpa using h
    | x0 :: x1 :: y :: t => simp [readA, kindsB, fitAll, toWs]
  by_cases h1 : o = 1
  · subst h1
    match l with
    | [] => simp [readA, kindsB, fitAll, toWs, mkB, toAskB, zA, zB]
    | y :: t => simp [readA, kindsB, fitAll, toWs]
  by_cases h7 : o = 7
  · subst h7
    match l with
    | [] => simp [readA, kindsB, fitAll, toWs, mkB, toAskB, zA, zB]
    | y :: t => simp [readA, kindsB, fitAll, toWs]
  simp [readA, kindsB, h0, h1, h2, h3, h4, h5, h6, h7, h8, h9]
def NodesOk (a : AskT) : Prop := a.nodes.length ≤ 1000 ∧ ∀ x ∈ a.nodes, x.f1.length ≤ 1000
theorem zA_ok (o : Int) : NodesOk (zA o) := ⟨by simp [zA], fun x hx => by cases hx⟩
theorem args_small (a : AskT) (h : NodesOk a) : ∀ x ∈ argsV a, Small x := by
  intro x hx
  unfold argsV at hx
  repeat' (split at hx)
  all_goals simp only [List.mem_cons, List.not_mem_nil, or_false] at hx
  all_goals first
    | (obtain rfl := hx; first | exact small_num _ | exact small_str _ | exact small_flow h.1 h.2)
    | (rcases hx with rfl | rfl <;> first | exact small_num _ | exact small_str _)
    | (rcases hx with rfl | rfl | rfl | rfl <;> exact small_num _)
    | cases hx
theorem value_ok (a : AskT) (h : NodesOk a) : ∃ K, graph_Value.f K a.fname a.nodes = some (2, 0, E0, [strV a.fname, allV (a.nodes.map nodeV)]) := by
  obtain ⟨K0, h0⟩ := Gv.value_some a.fname a.nodes (by have := h.1; omega) (fun x hx => by have := h.2 x hx; omega)
  exact ⟨K0, h0 K0 (Nat.le_refl _)⟩
end Go.Proofs.Ytjicfkmpgogppaa.Ap
namespace Go.Proofs.Ytjicfkmpgogppaa.Ap
set_option linter.unusedVariables false
set_option linter.unusedSimpArgs false
open Go Go.RowKit Go.Proofs.Ytjicfkmpgogppaa.Plain Go.Proofs.Ytjicfkmpgogppaa.Vs Go.Proofs.Ytjicfkmpgogppaa.PA Go.Proofs.YtjicfkmpgogppaaW.PrintWords Go.Proofs.YtjicfkmpgogppaaW.PrintLast Go.Proofs.YtjicfkmpgogppaaW.PrintMore
open Go.Proofs.Ytjicfkmpgogppaa.Gv (strV numV allV nodeV flowV flowR A_ E0 okN)
open Go.Proofs.Ytjicfkmpgogppaa.Or (AskT zA readA inr)
/-- an ask with all that its op isn't asked with left out -/
def keep (a : AskT) : AskT := if a.op = 0 then { zA a.op with run := a.run } else if a.op = 2 then { zA a.op with run := a.run, node := a.node, tries := a.tries, okf := a.okf } else if a.op = 3 then { zA a.op with name := a.name } else if a.op = 4 then { zA a.op with fname := a.fname, nodes := a.nodes } else if a.op = 5 then { zA a.op with person := a.person, till := a.till } else if a.op = 6 then { zA a.op with person := a.person, role := a.role } else if a.op = 8 ∨ a.op = 9 then { zA a.op with caller := a.caller, name := a.name } else zA a.op
structure Fits (a : AskT) : Prop where
  op : 0 ≤ a.op ∧ a.op < 10
  node : inr a.node = true
  tries : inr a.tries = true
  person : inr a.person = true
  role : inr a.role = true
  caller : inr a.caller = true
  nodes : a.nodes.all okN = true
theorem ops {o : Int} (h : 0 ≤ o ∧ o < 10) : o = 0 ∨ o = 1 ∨ o = 2 ∨ o = 3 ∨ o = 4 ∨ o = 5 ∨ o = 6 ∨ o = 7 ∨ o = 8 ∨ o = 9 := by omega
theorem read_args (a : AskT) (h : Fits a) : readA flowR a.op (argsV a) = some (keep a) := by
  obtain ⟨o, run, node, tri, ok, per, rol, til, cal, nm, fn, l⟩ := a
  obtain ⟨h0, h1, h2, h3, h4, h5, h6⟩ := h
  simp only at h0 h1 h2 h3 h4 h5 h6
  have hf : flowR (flowV fn l) = (fn, l, 0) := by rw [Gv.flowR_V, if_pos h6]
  rcases ops h0 with rfl | rfl | rfl | rfl | rfl | rfl | rfl | rfl | rfl | rfl
  · simp [argsV, readA, keep, numV]
  · simp [argsV, readA, keep]
  · cases ok <;> simp [argsV, readA, keep, numV, h1, h2]
  · simp [argsV, readA, keep, strV]
  · simp only [argsV, readA, keep]
    simp [hf]
    rfl
  · simp [argsV, readA, keep, numV, h3]
  · simp [argsV, readA, keep, numV, h3, h4]
  · simp [argsV, readA, keep]
  · simp [argsV, readA, keep, numV, strV, h5]
  · simp [argsV, readA, keep, numV, strV, h5]
theorem args_keep (a : AskT) (h : Fits a) : argsV (keep a) = argsV a := by
  obtain ⟨o, run, node, tri, ok, per, rol, til, cal, nm, fn, l⟩ := a
  rcases ops h.op with e | e | e | e | e | e | e | e | e | e <;> simp only at e <;> subst e <;> simp [argsV, keep, zA]
theorem keep_op (a : AskT) : (keep a).op = a.op := by
  unfold keep
  repeat' split
  all_goals rfl
theorem more_none (a : AskT) (h : Fits a) : readA flowR a.op (argsV a ++ [numV 0]) = none := by
  obtain ⟨o, run, node, tri, ok, per, rol, til, cal, nm, fn, l⟩ := a
  rcases ops h.op with e | e | e | e | e | e | e | e | e | e <;> simp only at e <;> subst e <;> simp [argsV, readA]
theorem fewer_none (a : AskT) (h : Fits a) (hn : (argsV a).length ≠ 0) : readA flowR a.op ((argsV a).take ((argsV a).length - 1)) = none := by
  obtain ⟨o, run, node, tri, ok, per, rol, til, cal, nm, fn, l⟩ := a
  rcases ops h.op with e | e | e | e | e | e | e | e | e | e <;> simp only at e <;> subst e <;> first | (simp [argsV, readA]; done) | (exact absurd rfl hn)
mutual
theorem eqV_refl : ∀ x : V, Eq.eqV x x = true
  | ⟨a, b, c, l⟩ => by
    have ih := eqVs_refl l
    unfold Eq.eqV
    simp [ih]
theorem eqVs_refl : ∀ l : List V, Eq.eqVs l l = true
  | [] => rfl
  | x :: l => by
    unfold Eq.eqVs
    rw [if_pos (eqV_refl x), eqVs_refl l]
end
theorem keep_ok (a : AskT) (h : NodesOk a) : NodesOk (keep a) := by
  unfold keep
  repeat' split
  all_goals first | exact h | exact zA_ok a.op | exact ⟨by simp [zA], fun x hx => by simp [zA] at hx⟩
end Go.Proofs.Ytjicfkmpgogppaa.Ap
