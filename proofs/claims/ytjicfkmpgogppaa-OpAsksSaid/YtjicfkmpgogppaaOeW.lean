/-
  op.Read, walked: what values ask for.
-/
import Derived.Test.YtjicfkmpgogppaaOdW
import Derived.LoopTactic
import Derived.Outline
namespace Go.Proofs.Ytjicfkmpgogppaa.Or
set_option linter.unusedVariables false
set_option linter.unusedSimpArgs false
open Go Go.RowKit Go.Proofs.Ytjicfkmpgogppaa.Vs Go.Proofs.Ytjicfkmpgogppaa.PA Go.Proofs.YtjicfkmpgogppaaW.PrintWords Go.Proofs.YtjicfkmpgogppaaW.PrintLast Go.Proofs.YtjicfkmpgogppaaW.PrintMore
structure AskT where
  op : Int
  run : Int
  node : Int
  tries : Int
  okf : Bool
  person : Int
  role : Int
  till : Int
  caller : Int
  name : ByteArray
  fname : ByteArray
  nodes : List A_
def zA (o : Int) : AskT := ⟨o, 0, 0, 0, false, 0, 0, 0, 0, ⟨#[]⟩, ⟨#[]⟩, []⟩
def cellsA (a : AskT) (u : Value) : Array Value := #[.int .i64 a.op, .int .i64 a.run, .int .i64 a.node, .int .i64 a.tries, .bool a.okf, .int .i64 a.person, .int .i64 a.role, .int .i64 a.till, .int .i64 a.caller, .string a.name, .string a.fname, u]
/-- what values ask for, with the workflows that they are -/
def readA (FR : V → ByteArray × List A_ × Int) (o : Int) (l : List V) : Option AskT :=
  if o = 0 then (match l with
    | [x] => if x.f0 = 0 then some { zA o with run := x.f1 } else none
    | _ => none)
  else if o = 1 ∨ o = 7 then (match l with
    | [] => some (zA o)
    | _ => none)
  else if o = 2 then (match l with
    | [a, b, c, d] => if a.f0 = 0 ∧ b.f0 = 0 ∧ inr b.f1 = true ∧ c.f0 = 0 ∧ inr c.f1 = true ∧ d.f0 = 0 ∧ (d.f1 = 0 ∨ d.f1 = 1) then some { zA o with run := a.f1, node := b.f1, tries := c.f1, okf := d.f1 == 1 } else none
    | _ => none)
  else if o = 3 then (match l with
    | [x] => if x.f0 = 1 then some { zA o with name := x.f2 } else none
    | _ => none)
  else if o = 4 then (match l with
    | [x] => if x.f0 = 2 ∧ (FR x).2.2 = 0 then some { zA o with fname := (FR x).1, nodes := (FR x).2.1 } else none
    | _ => none)
  else if o = 5 then (match l with
    | [a, b] => if a.f0 = 0 ∧ inr a.f1 = true ∧ b.f0 = 0 then some { zA o with person := a.f1, till := b.f1 } else none
    | _ => none)
  else if o = 6 then (match l with
    | [a, b] => if a.f0 = 0 ∧ inr a.f1 = true ∧ b.f0 = 0 ∧ inr b.f1 = true then some { zA o with person := a.f1, role := b.f1 } else none
    | _ => none)
  else if o = 8 ∨ o = 9 then (match l with
    | [a, b] => if a.f0 = 0 ∧ inr a.f1 = true ∧ b.f0 = 1 then some { zA o with caller := a.f1, name := b.f2 } else none
    | _ => none)
  else none
def PostR (w0 : World) (r : Option AskT) (e : Ending) (w' : World) : Prop := match r with
  | some a => ∃ A c, e = .returned (.tuple #[.agg (cellsA a (.slice A a.nodes.length c)), .int .i64 0]) ∧ a.nodes.length ≤ c ∧ Kd.F k48 w' (fun k => w0.heap.size ≤ k) A a.nodes.length a.nodes ∧ Below w0.heap.size w0 w'
  | none => e = .returned (.tuple #[.agg (cellsA (zA 0) (.slice none 0 0)), .int .i64 4]) ∧ Below w0.heap.size w0 w'
/-- where Read's variables lie -/
structure EnvR (w0 wr : World) (ga ge gr : Nat) (cs : Array Value) (l : List V) : Prop where
  A : wr.heap[ga]? = some (.cells cs 107 (0, 0))
  E : wr.heap[ge]? = some (.cells #[.int .i64 0] 33 (0, 0))
  R : RS w0 wr gr l
theorem EnvR.keep {w0 wr w1 : World} {ga ge gr : Nat} {cs : Array Value} {l t : List V} (h : EnvR w0 wr ga ge gr cs l) (ha : ga < gr) (he : ge < gr) (hr : RS w0 w1 gr t) (hk : KeepBut wr w1 gr none) : EnvR w0 w1 ga ge gr cs t := ⟨hk.blk h.A (by omega) (by simp), hk.blk h.E (by omega) (by simp), hr⟩
theorem EnvR.lost {w0 wr w1 : World} {ga ge gr : Nat} {cs : Array Value} {l : List V} (h : EnvR w0 wr ga ge gr cs l) (ha : ga < gr) (he : ge < gr) (hk : KeepBut wr w1 gr none) : w1.heap[ga]? = some (.cells cs 107 (0, 0)) ∧ w1.heap[ge]? = some (.cells #[.int .i64 0] 33 (0, 0)) := ⟨hk.blk h.A (by omega) (by simp), hk.blk h.E (by omega) (by simp)⟩
theorem EnvR.set {w0 wr : World} {ga ge gr : Nat} {cs cs' : Array Value} {l : List V} (h : EnvR w0 wr ga ge gr cs l) (ha : ga < ge) (he : ge < gr) (hg : w0.heap.size ≤ ga) (i : Nat) (u : Value) (e : cs.setIfInBounds i u = cs') : EnvR w0 (wr.setCell ⟨ga, i, none⟩ u) ga ge gr cs' l := ⟨blk_put h.A i u e, blk_far h.E (by simp; omega) u, h.R.move (Below.heap_setCell _ _ _ _ (by simp; omega)) (below_set h.R.hb hg)⟩
theorem post_none {w0 w' : World} {r : Option AskT} (hr : r = none) (hb : Below w0.heap.size w0 w') : PostR w0 r (.returned (.tuple #[.agg #[.int .i64 0, .int .i64 0, .int .i64 0, .int .i64 0, .bool false, .int .i64 0, .int .i64 0, .int .i64 0, .int .i64 0, .string ⟨#[]⟩, .string ⟨#[]⟩, .slice none 0 0], .int .i64 4])) w' := by
  subst hr
  exact ⟨rfl, hb⟩
theorem post_some {w0 w' : World} {r : Option AskT} {a : AskT} {A : Option Addr} {c : Nat} (hr : r = some a) (hl : a.nodes.length ≤ c) (hF : Kd.F k48 w' (fun k => w0.heap.size ≤ k) A a.nodes.length a.nodes) (hb : Below w0.heap.size w0 w') : PostR w0 r (.returned (.tuple #[.agg (cellsA a (.slice A a.nodes.length c)), .int .i64 0])) w' := by
  subst hr
  exact ⟨A, c, rfl, hl, hF, hb⟩
theorem envR_start (o : Int) (l : List V) (A : Option Addr) (c : Nat) (w : World) (hC : Kd.C k54 w A l.length l) (hc : l.length ≤ c) : EnvR w (((w.alloc (.cells #[.int .i64 o, .int .i64 0, .int .i64 0, .int .i64 0, .bool false, .int .i64 0, .int .i64 0, .int .i64 0, .int .i64 0, .string ⟨#[]⟩, .string ⟨#[]⟩, .slice none 0 0] 107)).alloc (.cells #[.int .i64 0] 33)).alloc (.cells #[.slice A l.length c] 161)) w.heap.size (w.heap.size + 1) (w.heap.size + 1 + 1) #[.int .i64 o, .int .i64 0, .int .i64 0, .int .i64 0, .bool false, .int .i64 0, .int .i64 0, .int .i64 0, .int .i64 0, .string ⟨#[]⟩, .string ⟨#[]⟩, .slice none 0 0] l := by
  have s1 : (w.alloc (.cells #[.int .i64 o, .int .i64 0, .int .i64 0, .int .i64 0, .bool false, .int .i64 0, .int .i64 0, .int .i64 0, .int .i64 0, .string ⟨#[]⟩, .string ⟨#[]⟩, .slice none 0 0] 107)).heap.size = w.heap.size + 1 := Array.size_push _
  have s2 : ((w.alloc (.cells #[.int .i64 o, .int .i64 0, .int .i64 0, .int .i64 0, .bool false, .int .i64 0, .int .i64 0, .int .i64 0, .int .i64 0, .string ⟨#[]⟩, .string ⟨#[]⟩, .slice none 0 0] 107)).alloc (.cells #[.int .i64 0] 33)).heap.size = w.heap.size + 1 + 1 := (Array.size_push _).trans (by rw [s1])
  refine ⟨blk_alloc (blk_alloc (blk_new w _) _) _, by rw [← s1]; exact blk_alloc (blk_new _ _) _, ⟨⟨A, c, by rw [← s2]; exact blk_new _ _, hc, hC⟩, below_alloc (below_alloc (below_alloc (Below.refl _ _) _) _) _, by omega⟩⟩
theorem field2 (w : World) (a b : Int) (s : ByteArray) (A : Option Addr) (n c : Nat) : Sem.run Try.prog (Instr.field 54 (.agg #[.int .i64 a, .int .i64 b, .string s, .slice A n c]) 2) w = .ok (.string s) w := by kernel_rfl
theorem next_one (x : V) (t : List V) (g : Nat) (w0 w : World) (h : RS w0 w g (x :: t)) (hk : x.f0 = 1) :
    Calls Try.prog 84 #[.pointer (some ⟨g, 0, none⟩), .int .i64 1] w fun e w' => ∃ A3 c3, e = .returned (.agg #[.int .i64 x.f0, .int .i64 x.f1, .string x.f2, .slice A3 x.f3.length c3]) ∧ x.f3.length ≤ c3 ∧ Kd.C k54 w0 A3 x.f3.length x.f3 ∧ RS w0 w' g t ∧ KeepBut w w' g none := by
  have := next_ok x t g w0 w h
  rwa [hk] at this ⊢
theorem not_short {x : V} (h : ¬ (x.f0 = 0 ∧ inr x.f1 = true)) : x.f0 ≠ 0 ∨ inr x.f1 = false := by
  by_cases z : x.f0 = 0
  · exact .inr (Bool.eq_false_iff.2 (fun q => h ⟨z, q⟩))
  · exact .inl z
theorem not_flag {x : V} (h : ¬ (x.f0 = 0 ∧ (x.f1 = 0 ∨ x.f1 = 1))) : x.f0 ≠ 0 ∨ ¬ (x.f1 = 0 ∨ x.f1 = 1) := by
  by_cases z : x.f0 = 0
  · exact .inr (fun q => h ⟨z, q⟩)
  · exact .inl z
set_option maxHeartbeats 8000000 in
set_option maxRecDepth 100000 in
theorem read_query (l : List V) (A : Option Addr) (c : Nat) (w : World) (hC : Kd.C k54 w A l.length l) (hc : l.length ≤ c) (FR : V → ByteArray × List A_ × Int) :
    Calls Try.prog 44 #[.int .i64 0, .slice A l.length c] w (PostR w (readA FR 0 l)) := by
  have hmf : ∀ (fn : Fn) (first cap : Array Value) (w : World), (Instr.makeFunc fn first cap).run Try.prog w = .ok (.func fn first cap) w := fun _ _ _ _ => rfl
  have hu1 := Try.underlying107
  have hu2 := Try.underlying161
  have HC := Aside0.mk hC
  have Hc := Aside0.mk hc
  clear hC hc
  go_enter_defers Try.func44, Try.ntmps44
  go_upto_region 4 with fail
  have hE := envR_start 0 l A c w HC.out Hc.out
  generalize ((w.alloc (.cells #[.int .i64 0, .int .i64 0, .int .i64 0, .int .i64 0, .bool false, .int .i64 0, .int .i64 0, .int .i64 0, .int .i64 0, .string ⟨#[]⟩, .string ⟨#[]⟩, .slice none 0 0] 107)).alloc (.cells #[.int .i64 0] 33)).alloc (.cells #[.slice A l.length c] 161) = w3 at hE ⊢
  obtain ⟨ga, hga⟩ : ∃ g, w.heap.size = g := ⟨_, rfl⟩
  obtain ⟨ge, hge⟩ : ∃ g, ga + 1 = g := ⟨_, rfl⟩
  obtain ⟨gr, hgr⟩ : ∃ g, ge + 1 = g := ⟨_, rfl⟩
  rw [hga, hge, hgr] at hE ⊢
  have g0 : w.heap.size ≤ ga := Nat.le_of_eq hga
  have g1 : ga < ge := by omega
  have g2 : ge < gr := by omega
  have g3 : ga < gr := by omega
  have HE0 := Aside0.mk hE
  clear hga hge hgr hE HC Hc
  cases l with
  | nil =>
    have HBQ := Aside0.mk (show (∀ y u, ([] : List V) = y :: u → y.f0 ≠ 0) from fun y u e => by cases e)
    go_wp2_with (first | (go_at_call 81; go_loud ((with_reducible refine (long_bad ([] : List V) gr w _ HE0.out.R HBQ.out).mono ?_); rintro e wb ⟨rfl, hb, hk⟩; have HLO := Aside0.mk (HE0.out.lost g3 g2 hk); have HBB := Aside0.mk hb; clear hb hk)))
    refine door_caught ga ge _ _ 4 0 _ _ _ _ _ _ _ _ _ _ _ _ _ rfl rfl (HLO.out).1 (HLO.out).2 (post_none (rfl) ?_)
    exact (set12_below HBB.out g0 _ _ _ _ _ _ _ _ _ _ _ _).setCell (by show w.heap.size ≤ ge; omega) _
  | cons m1 t1 =>
    by_cases hx : m1.f0 = 0
    · have HP1 := Aside0.mk hx
      clear hx
      go_upto_region 22 with (first | (go_at_call 81; go_loud ((with_reducible refine (long_ok m1 _ gr w _ HE0.out.R HP1.out).mono ?_); rintro e w11 ⟨rfl, hr, hk⟩; have HE1 := Aside0.mk (HE0.out.keep g3 g2 hr hk); have k1 : w11.cell? ⟨ga, 1, none⟩ = some (.int .i64 0) := (blk_cell HE1.out.A 1).trans rfl; have q1 := blk_frozen HE1.out.A 1; clear hr hk)))
      have hS := (HE1.out.set (cs' := #[.int .i64 0, .int .i64 m1.f1, .int .i64 0, .int .i64 0, .bool false, .int .i64 0, .int .i64 0, .int .i64 0, .int .i64 0, .string ⟨#[]⟩, .string ⟨#[]⟩, .slice none 0 0]) g1 g2 g0 1 (.int .i64 m1.f1) rfl)
      clear k1 q1
      generalize (w11.setCell ⟨ga, 1, none⟩ (.int .i64 m1.f1)) = w20 at hS ⊢
      have HS0 := Aside0.mk hS
      clear hS
      obtain ⟨Ar, cr, h1, h2, h3⟩ := HS0.out.R.st
      cases t1 with
      | nil =>
        have r0 : w20.cell? ⟨gr, 0, none⟩ = some (.slice Ar 0 cr) := (blk_cell h1 0).trans rfl
        have kk := blk_cell HS0.out.A
        have qq := blk_frozen HS0.out.A
        have ke : w20.cell? ⟨ge, 0, none⟩ = some (.int .i64 0) := (blk_cell HS0.out.E 0).trans rfl
        have qe := blk_frozen HS0.out.E 0
        clear h1 h2 h3
        go_wp2_with (go_at_call 86; go_loud ((with_reducible refine (must_ok _).mono ?_); rintro e w'' ⟨rfl, rfl⟩))
        refine door_idle ga ge _ _ 0 (.int .i64 0) (.int .i64 m1.f1) (.int .i64 0) (.int .i64 0) (.bool false) (.int .i64 0) (.int .i64 0) (.int .i64 0) (.int .i64 0) (.string ⟨#[]⟩) (.string ⟨#[]⟩) (.slice none 0 0) _ rfl rfl (blk_far (set12_v HS0.out.A (.int .i64 0) (.int .i64 m1.f1) (.int .i64 0) (.int .i64 0) (.bool false) (.int .i64 0) (.int .i64 0) (.int .i64 0) (.int .i64 0) (.string ⟨#[]⟩) (.string ⟨#[]⟩) (.slice none 0 0)) (by show ga ≠ ge; omega) _) (blk_put ((set12_o (w := w20) (by show ge ≠ ga; omega) (.int .i64 0) (.int .i64 m1.f1) (.int .i64 0) (.int .i64 0) (.bool false) (.int .i64 0) (.int .i64 0) (.int .i64 0) (.int .i64 0) (.string ⟨#[]⟩) (.string ⟨#[]⟩) (.slice none 0 0)).trans HS0.out.E) 0 _ rfl) (post_some (a := { zA 0 with run := m1.f1 }) (A := none) (c := 0) (if_pos HP1.out) (Nat.le_refl _) (Kd.F_nil _ _ _) ?_)
        exact (set12_below HS0.out.R.hb g0 _ _ _ _ _ _ _ _ _ _ _ _).setCell (by show w.heap.size ≤ ge; omega) _
      | cons y_ t_ =>
        have r0 : w20.cell? ⟨gr, 0, none⟩ = some (.slice Ar (t_.length + 1) cr) := (blk_cell h1 0).trans rfl
        have p0 : ((t_.length : Int) + 1 == 0) = false := by rw [beq_eq_false_iff_ne]; omega
        have p1 : (((t_.length + 1 : Nat) : Int) == 0) = false := by rw [beq_eq_false_iff_ne]; omega
        clear h1 h2 h3
        go_wp2_with (go_at_call 86; go_loud ((with_reducible refine (must_bad _).mono ?_); rintro e w'' ⟨rfl, rfl⟩))
        refine door_caught ga ge _ _ 4 0 (.int .i64 0) (.int .i64 m1.f1) (.int .i64 0) (.int .i64 0) (.bool false) (.int .i64 0) (.int .i64 0) (.int .i64 0) (.int .i64 0) (.string ⟨#[]⟩) (.string ⟨#[]⟩) (.slice none 0 0) _ rfl rfl HS0.out.A HS0.out.E (post_none (rfl) ?_)
        exact (set12_below HS0.out.R.hb g0 _ _ _ _ _ _ _ _ _ _ _ _).setCell (by show w.heap.size ≤ ge; omega) _
    · have HP1 := Aside0.mk hx
      have HBQ := Aside0.mk (show (∀ y u, (m1 :: t1) = y :: u → y.f0 ≠ 0) from fun y u e => by cases e; exact hx)
      clear hx
      go_wp2_with (first | (go_at_call 81; go_loud ((with_reducible refine (long_bad (m1 :: t1) gr w _ HE0.out.R HBQ.out).mono ?_); rintro e wb ⟨rfl, hb, hk⟩; have HLO := Aside0.mk (HE0.out.lost g3 g2 hk); have HBB := Aside0.mk hb; clear hb hk)))
      refine door_caught ga ge _ _ 4 0 _ _ _ _ _ _ _ _ _ _ _ _ _ rfl rfl (HLO.out).1 (HLO.out).2 (post_none (by rcases t1 with _ | ⟨z0, _⟩ <;> first | rfl | exact if_neg (fun (h : m1.f0 = 0) => HP1.out h)) ?_)
      exact (set12_below HBB.out g0 _ _ _ _ _ _ _ _ _ _ _ _).setCell (by show w.heap.size ≤ ge; omega) _
set_option maxHeartbeats 8000000 in
set_option maxRecDepth 100000 in
theorem read_complete (l : List V) (A : Option Addr) (c : Nat) (w : World) (hC : Kd.C k54 w A l.length l) (hc : l.length ≤ c) (FR : V → ByteArray × List A_ × Int) :
    Calls Try.prog 44 #[.int .i64 2, .slice A l.length c] w (PostR w (readA FR 2 l)) := by
  have hmf : ∀ (fn : Fn) (first cap : Array Value) (w : World), (Instr.makeFunc fn first cap).run Try.prog w = .ok (.func fn first cap) w := fun _ _ _ _ => rfl
  have hu1 := Try.underlying107
  have hu2 := Try.underlying161
  have HC := Aside0.mk hC
  have Hc := Aside0.mk hc
  clear hC hc
  go_enter_defers Try.func44, Try.ntmps44
  go_upto_region 4 with fail
  have hE := envR_start 2 l A c w HC.out Hc.out
  generalize ((w.alloc (.cells #[.int .i64 2, .int .i64 0, .int .i64 0, .int .i64 0, .bool false, .int .i64 0, .int .i64 0, .int .i64 0, .int .i64 0, .string ⟨#[]⟩, .string ⟨#[]⟩, .slice none 0 0] 107)).alloc (.cells #[.int .i64 0] 33)).alloc (.cells #[.slice A l.length c] 161) = w3 at hE ⊢
  obtain ⟨ga, hga⟩ : ∃ g, w.heap.size = g := ⟨_, rfl⟩
  obtain ⟨ge, hge⟩ : ∃ g, ga + 1 = g := ⟨_, rfl⟩
  obtain ⟨gr, hgr⟩ : ∃ g, ge + 1 = g := ⟨_, rfl⟩
  rw [hga, hge, hgr] at hE ⊢
  have g0 : w.heap.size ≤ ga := Nat.le_of_eq hga
  have g1 : ga < ge := by omega
  have g2 : ge < gr := by omega
  have g3 : ga < gr := by omega
  have HE0 := Aside0.mk hE
  clear hga hge hgr hE HC Hc
  cases l with
  | nil =>
    have HBQ := Aside0.mk (show (∀ y u, ([] : List V) = y :: u → y.f0 ≠ 0) from fun y u e => by cases e)
    go_wp2_with (first | (go_at_call 81; go_loud ((with_reducible refine (long_bad ([] : List V) gr w _ HE0.out.R HBQ.out).mono ?_); rintro e wb ⟨rfl, hb, hk⟩; have HLO := Aside0.mk (HE0.out.lost g3 g2 hk); have HBB := Aside0.mk hb; clear hb hk)))
    refine door_caught ga ge _ _ 4 0 _ _ _ _ _ _ _ _ _ _ _ _ _ rfl rfl (HLO.out).1 (HLO.out).2 (post_none (rfl) ?_)
    exact (set12_below HBB.out g0 _ _ _ _ _ _ _ _ _ _ _ _).setCell (by show w.heap.size ≤ ge; omega) _
  | cons m1 t1 =>
    by_cases hx : m1.f0 = 0
    · have HP1 := Aside0.mk hx
      clear hx
      cases t1 with
      | nil =>
        have HBQ := Aside0.mk (show (∀ y u, ([] : List V) = y :: u → y.f0 ≠ 0 ∨ inr y.f1 = false) from fun y u e => by cases e)
        go_wp2_with (first | (go_at_call 82; go_loud ((with_reducible refine (short_bad ([] : List V) gr w _ HE1.out.R HBQ.out).mono ?_); rintro e wb ⟨rfl, hb, hk⟩; have HLO := Aside0.mk (HE1.out.lost g3 g2 hk); have HBB := Aside0.mk hb; clear hb hk)) | (go_at_call 81; go_loud ((with_reducible refine (long_ok m1 _ gr w _ HE0.out.R HP1.out).mono ?_); rintro e w11 ⟨rfl, hr, hk⟩; have HE1 := Aside0.mk (HE0.out.keep g3 g2 hr hk); clear hr hk)))
        refine door_caught ga ge _ _ 4 0 _ _ _ _ _ _ _ _ _ _ _ _ _ rfl rfl (HLO.out).1 (HLO.out).2 (post_none (rfl) ?_)
        exact (set12_below HBB.out g0 _ _ _ _ _ _ _ _ _ _ _ _).setCell (by show w.heap.size ≤ ge; omega) _
      | cons m2 t2 =>
        by_cases hx : m2.f0 = 0 ∧ inr m2.f1 = true
        · have HP2 := Aside0.mk hx
          clear hx
          cases t2 with
          | nil =>
            have HBQ := Aside0.mk (show (∀ y u, ([] : List V) = y :: u → y.f0 ≠ 0 ∨ inr y.f1 = false) from fun y u e => by cases e)
            go_wp2_with (first | (go_at_call 82; go_loud ((with_reducible refine (short_bad ([] : List V) gr w _ HE2.out.R HBQ.out).mono ?_); rintro e wb ⟨rfl, hb, hk⟩; have HLO := Aside0.mk (HE2.out.lost g3 g2 hk); have HBB := Aside0.mk hb; clear hb hk)) | (go_at_call 82; go_loud ((with_reducible refine (short_ok m2 _ gr w _ HE1.out.R HP2.out.1 HP2.out.2).mono ?_); rintro e w12 ⟨rfl, hr, hk⟩; have HE2 := Aside0.mk (HE1.out.keep g3 g2 hr hk); clear hr hk)) | (go_at_call 81; go_loud ((with_reducible refine (long_ok m1 _ gr w _ HE0.out.R HP1.out).mono ?_); rintro e w11 ⟨rfl, hr, hk⟩; have HE1 := Aside0.mk (HE0.out.keep g3 g2 hr hk); clear hr hk)))
            refine door_caught ga ge _ _ 4 0 _ _ _ _ _ _ _ _ _ _ _ _ _ rfl rfl (HLO.out).1 (HLO.out).2 (post_none (rfl) ?_)
            exact (set12_below HBB.out g0 _ _ _ _ _ _ _ _ _ _ _ _).setCell (by show w.heap.size ≤ ge; omega) _
          | cons m3 t3 =>
            by_cases hx : m3.f0 = 0 ∧ inr m3.f1 = true
            · have HP3 := Aside0.mk hx
              clear hx
              cases t3 with
              | nil =>
                have HBQ := Aside0.mk (show (∀ y u, ([] : List V) = y :: u → y.f0 ≠ 0 ∨ ¬ (y.f1 = 0 ∨ y.f1 = 1)) from fun y u e => by cases e)
                go_upto_region 10 with (first | (go_at_call 82; go_loud ((with_reducible refine (short_ok m3 _ gr w _ HE2.out.R HP3.out.1 HP3.out.2).mono ?_); rintro e w13 ⟨rfl, hr, hk⟩; have HE3 := Aside0.mk (HE2.out.keep g3 g2 hr hk); have k1 : w13.cell? ⟨ga, 1, none⟩ = some (.int .i64 0) := (blk_cell HE3.out.A 1).trans rfl; have q1 := blk_frozen HE3.out.A 1; have k2 : w13.cell? ⟨ga, 2, none⟩ = some (.int .i64 0) := (blk_cell HE3.out.A 2).trans rfl; have q2 := blk_frozen HE3.out.A 2; have k3 : w13.cell? ⟨ga, 3, none⟩ = some (.int .i64 0) := (blk_cell HE3.out.A 3).trans rfl; have q3 := blk_frozen HE3.out.A 3; clear hr hk)) | (go_at_call 82; go_loud ((with_reducible refine (short_ok m2 _ gr w _ HE1.out.R HP2.out.1 HP2.out.2).mono ?_); rintro e w12 ⟨rfl, hr, hk⟩; have HE2 := Aside0.mk (HE1.out.keep g3 g2 hr hk); clear hr hk)) | (go_at_call 81; go_loud ((with_reducible refine (long_ok m1 _ gr w _ HE0.out.R HP1.out).mono ?_); rintro e w11 ⟨rfl, hr, hk⟩; have HE1 := Aside0.mk (HE0.out.keep g3 g2 hr hk); clear hr hk)))
                have hS := (((HE3.out.set (cs' := #[.int .i64 2, .int .i64 m1.f1, .int .i64 0, .int .i64 0, .bool false, .int .i64 0, .int .i64 0, .int .i64 0, .int .i64 0, .string ⟨#[]⟩, .string ⟨#[]⟩, .slice none 0 0]) g1 g2 g0 1 (.int .i64 m1.f1) rfl).set (cs' := #[.int .i64 2, .int .i64 m1.f1, .int .i64 m2.f1, .int .i64 0, .bool false, .int .i64 0, .int .i64 0, .int .i64 0, .int .i64 0, .string ⟨#[]⟩, .string ⟨#[]⟩, .slice none 0 0]) g1 g2 g0 2 (.int .i64 m2.f1) rfl).set (cs' := #[.int .i64 2, .int .i64 m1.f1, .int .i64 m2.f1, .int .i64 m3.f1, .bool false, .int .i64 0, .int .i64 0, .int .i64 0, .int .i64 0, .string ⟨#[]⟩, .string ⟨#[]⟩, .slice none 0 0]) g1 g2 g0 3 (.int .i64 m3.f1) rfl)
                clear k1 q1 k2 q2 k3 q3
                generalize (((w13.setCell ⟨ga, 1, none⟩ (.int .i64 m1.f1)).setCell ⟨ga, 2, none⟩ (.int .i64 m2.f1)).setCell ⟨ga, 3, none⟩ (.int .i64 m3.f1)) = w20 at hS ⊢
                have HS0 := Aside0.mk hS
                clear hS
                go_wp2_with (first | (go_at_call 83; go_loud ((with_reducible refine (flag_bad ([] : List V) gr w _ HS0.out.R HBQ.out).mono ?_); rintro e wb ⟨rfl, hb, hk⟩; have HLO := Aside0.mk (HS0.out.lost g3 g2 hk); have HBB := Aside0.mk hb; clear hb hk)))
                refine door_caught ga ge _ _ 4 0 _ _ _ _ _ _ _ _ _ _ _ _ _ rfl rfl (HLO.out).1 (HLO.out).2 (post_none (rfl) ?_)
                exact (set12_below HBB.out g0 _ _ _ _ _ _ _ _ _ _ _ _).setCell (by show w.heap.size ≤ ge; omega) _
              | cons m4 t4 =>
                by_cases hx : m4.f0 = 0 ∧ (m4.f1 = 0 ∨ m4.f1 = 1)
                · have HP4 := Aside0.mk hx
                  clear hx
                  go_upto_region 10 with (first | (go_at_call 82; go_loud ((with_reducible refine (short_ok m3 _ gr w _ HE2.out.R HP3.out.1 HP3.out.2).mono ?_); rintro e w13 ⟨rfl, hr, hk⟩; have HE3 := Aside0.mk (HE2.out.keep g3 g2 hr hk); have k1 : w13.cell? ⟨ga, 1, none⟩ = some (.int .i64 0) := (blk_cell HE3.out.A 1).trans rfl; have q1 := blk_frozen HE3.out.A 1; have k2 : w13.cell? ⟨ga, 2, none⟩ = some (.int .i64 0) := (blk_cell HE3.out.A 2).trans rfl; have q2 := blk_frozen HE3.out.A 2; have k3 : w13.cell? ⟨ga, 3, none⟩ = some (.int .i64 0) := (blk_cell HE3.out.A 3).trans rfl; have q3 := blk_frozen HE3.out.A 3; clear hr hk)) | (go_at_call 82; go_loud ((with_reducible refine (short_ok m2 _ gr w _ HE1.out.R HP2.out.1 HP2.out.2).mono ?_); rintro e w12 ⟨rfl, hr, hk⟩; have HE2 := Aside0.mk (HE1.out.keep g3 g2 hr hk); clear hr hk)) | (go_at_call 81; go_loud ((with_reducible refine (long_ok m1 _ gr w _ HE0.out.R HP1.out).mono ?_); rintro e w11 ⟨rfl, hr, hk⟩; have HE1 := Aside0.mk (HE0.out.keep g3 g2 hr hk); clear hr hk)))
                  have hS := (((HE3.out.set (cs' := #[.int .i64 2, .int .i64 m1.f1, .int .i64 0, .int .i64 0, .bool false, .int .i64 0, .int .i64 0, .int .i64 0, .int .i64 0, .string ⟨#[]⟩, .string ⟨#[]⟩, .slice none 0 0]) g1 g2 g0 1 (.int .i64 m1.f1) rfl).set (cs' := #[.int .i64 2, .int .i64 m1.f1, .int .i64 m2.f1, .int .i64 0, .bool false, .int .i64 0, .int .i64 0, .int .i64 0, .int .i64 0, .string ⟨#[]⟩, .string ⟨#[]⟩, .slice none 0 0]) g1 g2 g0 2 (.int .i64 m2.f1) rfl).set (cs' := #[.int .i64 2, .int .i64 m1.f1, .int .i64 m2.f1, .int .i64 m3.f1, .bool false, .int .i64 0, .int .i64 0, .int .i64 0, .int .i64 0, .string ⟨#[]⟩, .string ⟨#[]⟩, .slice none 0 0]) g1 g2 g0 3 (.int .i64 m3.f1) rfl)
                  clear k1 q1 k2 q2 k3 q3
                  generalize (((w13.setCell ⟨ga, 1, none⟩ (.int .i64 m1.f1)).setCell ⟨ga, 2, none⟩ (.int .i64 m2.f1)).setCell ⟨ga, 3, none⟩ (.int .i64 m3.f1)) = w20 at hS ⊢
                  have HS0 := Aside0.mk hS
                  clear hS
                  go_upto_region 22 with (first | (go_at_call 83; go_loud ((with_reducible refine (flag_ok m4 _ gr w _ HS0.out.R HP4.out.1 HP4.out.2).mono ?_); rintro e w14 ⟨rfl, hr, hk⟩; have HE4 := Aside0.mk (HS0.out.keep g3 g2 hr hk); have k4 : w14.cell? ⟨ga, 4, none⟩ = some (.bool false) := (blk_cell HE4.out.A 4).trans rfl; have q4 := blk_frozen HE4.out.A 4; clear hr hk)))
                  have hS := (HE4.out.set (cs' := #[.int .i64 2, .int .i64 m1.f1, .int .i64 m2.f1, .int .i64 m3.f1, .bool (m4.f1 == 1), .int .i64 0, .int .i64 0, .int .i64 0, .int .i64 0, .string ⟨#[]⟩, .string ⟨#[]⟩, .slice none 0 0]) g1 g2 g0 4 (.bool (m4.f1 == 1)) rfl)
                  clear k4 q4
                  generalize (w14.setCell ⟨ga, 4, none⟩ (.bool (m4.f1 == 1))) = w21 at hS ⊢
                  have HS1 := Aside0.mk hS
                  clear hS
                  obtain ⟨Ar, cr, h1, h2, h3⟩ := HS1.out.R.st
                  cases t4 with
                  | nil =>
                    have r0 : w21.cell? ⟨gr, 0, none⟩ = some (.slice Ar 0 cr) := (blk_cell h1 0).trans rfl
                    have kk := blk_cell HS1.out.A
                    have qq := blk_frozen HS1.out.A
                    have ke : w21.cell? ⟨ge, 0, none⟩ = some (.int .i64 0) := (blk_cell HS1.out.E 0).trans rfl
                    have qe := blk_frozen HS1.out.E 0
                    clear h1 h2 h3
                    go_wp2_with (go_at_call 86; go_loud ((with_reducible refine (must_ok _).mono ?_); rintro e w'' ⟨rfl, rfl⟩))
                    refine door_idle ga ge _ _ 0 (.int .i64 2) (.int .i64 m1.f1) (.int .i64 m2.f1) (.int .i64 m3.f1) (.bool (m4.f1 == 1)) (.int .i64 0) (.int .i64 0) (.int .i64 0) (.int .i64 0) (.string ⟨#[]⟩) (.string ⟨#[]⟩) (.slice none 0 0) _ rfl rfl (blk_far (set12_v HS1.out.A (.int .i64 2) (.int .i64 m1.f1) (.int .i64 m2.f1) (.int .i64 m3.f1) (.bool (m4.f1 == 1)) (.int .i64 0) (.int .i64 0) (.int .i64 0) (.int .i64 0) (.string ⟨#[]⟩) (.string ⟨#[]⟩) (.slice none 0 0)) (by show ga ≠ ge; omega) _) (blk_put ((set12_o (w := w21) (by show ge ≠ ga; omega) (.int .i64 2) (.int .i64 m1.f1) (.int .i64 m2.f1) (.int .i64 m3.f1) (.bool (m4.f1 == 1)) (.int .i64 0) (.int .i64 0) (.int .i64 0) (.int .i64 0) (.string ⟨#[]⟩) (.string ⟨#[]⟩) (.slice none 0 0)).trans HS1.out.E) 0 _ rfl) (post_some (a := { zA 2 with run := m1.f1, node := m2.f1, tries := m3.f1, okf := m4.f1 == 1 }) (A := none) (c := 0) (if_pos (show m1.f0 = 0 ∧ m2.f0 = 0 ∧ inr m2.f1 = true ∧ m3.f0 = 0 ∧ inr m3.f1 = true ∧ m4.f0 = 0 ∧ (m4.f1 = 0 ∨ m4.f1 = 1) from ⟨HP1.out, HP2.out.1, HP2.out.2, HP3.out.1, HP3.out.2, HP4.out.1, HP4.out.2⟩)) (Nat.le_refl _) (Kd.F_nil _ _ _) ?_)
                    exact (set12_below HS1.out.R.hb g0 _ _ _ _ _ _ _ _ _ _ _ _).setCell (by show w.heap.size ≤ ge; omega) _
                  | cons y_ t_ =>
                    have r0 : w21.cell? ⟨gr, 0, none⟩ = some (.slice Ar (t_.length + 1) cr) := (blk_cell h1 0).trans rfl
                    have p0 : ((t_.length : Int) + 1 == 0) = false := by rw [beq_eq_false_iff_ne]; omega
                    have p1 : (((t_.length + 1 : Nat) : Int) == 0) = false := by rw [beq_eq_false_iff_ne]; omega
                    clear h1 h2 h3
                    go_wp2_with (go_at_call 86; go_loud ((with_reducible refine (must_bad _).mono ?_); rintro e w'' ⟨rfl, rfl⟩))
                    refine door_caught ga ge _ _ 4 0 (.int .i64 2) (.int .i64 m1.f1) (.int .i64 m2.f1) (.int .i64 m3.f1) (.bool (m4.f1 == 1)) (.int .i64 0) (.int .i64 0) (.int .i64 0) (.int .i64 0) (.string ⟨#[]⟩) (.string ⟨#[]⟩) (.slice none 0 0) _ rfl rfl HS1.out.A HS1.out.E (post_none (rfl) ?_)
                    exact (set12_below HS1.out.R.hb g0 _ _ _ _ _ _ _ _ _ _ _ _).setCell (by show w.heap.size ≤ ge; omega) _
                · have HP4 := Aside0.mk hx
                  have HBQ := Aside0.mk (show (∀ y u, (m4 :: t4) = y :: u → y.f0 ≠ 0 ∨ ¬ (y.f1 = 0 ∨ y.f1 = 1)) from fun y u e => by cases e; exact not_flag hx)
                  clear hx
                  go_upto_region 10 with (first | (go_at_call 82; go_loud ((with_reducible refine (short_ok m3 _ gr w _ HE2.out.R HP3.out.1 HP3.out.2).mono ?_); rintro e w13 ⟨rfl, hr, hk⟩; have HE3 := Aside0.mk (HE2.out.keep g3 g2 hr hk); have k1 : w13.cell? ⟨ga, 1, none⟩ = some (.int .i64 0) := (blk_cell HE3.out.A 1).trans rfl; have q1 := blk_frozen HE3.out.A 1; have k2 : w13.cell? ⟨ga, 2, none⟩ = some (.int .i64 0) := (blk_cell HE3.out.A 2).trans rfl; have q2 := blk_frozen HE3.out.A 2; have k3 : w13.cell? ⟨ga, 3, none⟩ = some (.int .i64 0) := (blk_cell HE3.out.A 3).trans rfl; have q3 := blk_frozen HE3.out.A 3; clear hr hk)) | (go_at_call 82; go_loud ((with_reducible refine (short_ok m2 _ gr w _ HE1.out.R HP2.out.1 HP2.out.2).mono ?_); rintro e w12 ⟨rfl, hr, hk⟩; have HE2 := Aside0.mk (HE1.out.keep g3 g2 hr hk); clear hr hk)) | (go_at_call 81; go_loud ((with_reducible refine (long_ok m1 _ gr w _ HE0.out.R HP1.out).mono ?_); rintro e w11 ⟨rfl, hr, hk⟩; have HE1 := Aside0.mk (HE0.out.keep g3 g2 hr hk); clear hr hk)))
                  have hS := (((HE3.out.set (cs' := #[.int .i64 2, .int .i64 m1.f1, .int .i64 0, .int .i64 0, .bool false, .int .i64 0, .int .i64 0, .int .i64 0, .int .i64 0, .string ⟨#[]⟩, .string ⟨#[]⟩, .slice none 0 0]) g1 g2 g0 1 (.int .i64 m1.f1) rfl).set (cs' := #[.int .i64 2, .int .i64 m1.f1, .int .i64 m2.f1, .int .i64 0, .bool false, .int .i64 0, .int .i64 0, .int .i64 0, .int .i64 0, .string ⟨#[]⟩, .string ⟨#[]⟩, .slice none 0 0]) g1 g2 g0 2 (.int .i64 m2.f1) rfl).set (cs' := #[.int .i64 2, .int .i64 m1.f1, .int .i64 m2.f1, .int .i64 m3.f1, .bool false, .int .i64 0, .int .i64 0, .int .i64 0, .int .i64 0, .string ⟨#[]⟩, .string ⟨#[]⟩, .slice none 0 0]) g1 g2 g0 3 (.int .i64 m3.f1) rfl)
                  clear k1 q1 k2 q2 k3 q3
                  generalize (((w13.setCell ⟨ga, 1, none⟩ (.int .i64 m1.f1)).setCell ⟨ga, 2, none⟩ (.int .i64 m2.f1)).setCell ⟨ga, 3, none⟩ (.int .i64 m3.f1)) = w20 at hS ⊢
                  have HS0 := Aside0.mk hS
                  clear hS
                  go_wp2_with (first | (go_at_call 83; go_loud ((with_reducible refine (flag_bad (m4 :: t4) gr w _ HS0.out.R HBQ.out).mono ?_); rintro e wb ⟨rfl, hb, hk⟩; have HLO := Aside0.mk (HS0.out.lost g3 g2 hk); have HBB := Aside0.mk hb; clear hb hk)))
                  refine door_caught ga ge _ _ 4 0 _ _ _ _ _ _ _ _ _ _ _ _ _ rfl rfl (HLO.out).1 (HLO.out).2 (post_none (by rcases t4 with _ | ⟨z0, _⟩ <;> first | rfl | exact if_neg (fun (h : m1.f0 = 0 ∧ m2.f0 = 0 ∧ inr m2.f1 = true ∧ m3.f0 = 0 ∧ inr m3.f1 = true ∧ m4.f0 = 0 ∧ (m4.f1 = 0 ∨ m4.f1 = 1)) => HP4.out ⟨h.2.2.2.2.2.1, h.2.2.2.2.2.2⟩)) ?_)
                  exact (set12_below HBB.out g0 _ _ _ _ _ _ _ _ _ _ _ _).setCell (by show w.heap.size ≤ ge; omega) _
            · have HP3 := Aside0.mk hx
              have HBQ := Aside0.mk (show (∀ y u, (m3 :: t3) = y :: u → y.f0 ≠ 0 ∨ inr y.f1 = false) from fun y u e => by cases e; exact not_short hx)
              clear hx
              go_wp2_with (first | (go_at_call 82; go_loud ((with_reducible refine (short_bad (m3 :: t3) gr w _ HE2.out.R HBQ.out).mono ?_); rintro e wb ⟨rfl, hb, hk⟩; have HLO := Aside0.mk (HE2.out.lost g3 g2 hk); have HBB := Aside0.mk hb; clear hb hk)) | (go_at_call 82; go_loud ((with_reducible refine (short_ok m2 _ gr w _ HE1.out.R HP2.out.1 HP2.out.2).mono ?_); rintro e w12 ⟨rfl, hr, hk⟩; have HE2 := Aside0.mk (HE1.out.keep g3 g2 hr hk); clear hr hk)) | (go_at_call 81; go_loud ((with_reducible refine (long_ok m1 _ gr w _ HE0.out.R HP1.out).mono ?_); rintro e w11 ⟨rfl, hr, hk⟩; have HE1 := Aside0.mk (HE0.out.keep g3 g2 hr hk); clear hr hk)))
              refine door_caught ga ge _ _ 4 0 _ _ _ _ _ _ _ _ _ _ _ _ _ rfl rfl (HLO.out).1 (HLO.out).2 (post_none (by rcases t3 with _ | ⟨z1, _ | ⟨z0, _⟩⟩ <;> first | rfl | exact if_neg (fun (h : m1.f0 = 0 ∧ m2.f0 = 0 ∧ inr m2.f1 = true ∧ m3.f0 = 0 ∧ inr m3.f1 = true ∧ z1.f0 = 0 ∧ (z1.f1 = 0 ∨ z1.f1 = 1)) => HP3.out ⟨h.2.2.2.1, h.2.2.2.2.1⟩)) ?_)
              exact (set12_below HBB.out g0 _ _ _ _ _ _ _ _ _ _ _ _).setCell (by show w.heap.size ≤ ge; omega) _
        · have HP2 := Aside0.mk hx
          have HBQ := Aside0.mk (show (∀ y u, (m2 :: t2) = y :: u → y.f0 ≠ 0 ∨ inr y.f1 = false) from fun y u e => by cases e; exact not_short hx)
          clear hx
          go_wp2_with (first | (go_at_call 82; go_loud ((with_reducible refine (short_bad (m2 :: t2) gr w _ HE1.out.R HBQ.out).mono ?_); rintro e wb ⟨rfl, hb, hk⟩; have HLO := Aside0.mk (HE1.out.lost g3 g2 hk); have HBB := Aside0.mk hb; clear hb hk)) | (go_at_call 81; go_loud ((with_reducible refine (long_ok m1 _ gr w _ HE0.out.R HP1.out).mono ?_); rintro e w11 ⟨rfl, hr, hk⟩; have HE1 := Aside0.mk (HE0.out.keep g3 g2 hr hk); clear hr hk)))
          refine door_caught ga ge _ _ 4 0 _ _ _ _ _ _ _ _ _ _ _ _ _ rfl rfl (HLO.out).1 (HLO.out).2 (post_none (by rcases t2 with _ | ⟨z2, _ | ⟨z1, _ | ⟨z0, _⟩⟩⟩ <;> first | rfl | exact if_neg (fun (h : m1.f0 = 0 ∧ m2.f0 = 0 ∧ inr m2.f1 = true ∧ z2.f0 = 0 ∧ inr z2.f1 = true ∧ z1.f0 = 0 ∧ (z1.f1 = 0 ∨ z1.f1 = 1)) => HP2.out ⟨h.2.1, h.2.2.1⟩)) ?_)
          exact (set12_below HBB.out g0 _ _ _ _ _ _ _ _ _ _ _ _).setCell (by show w.heap.size ≤ ge; omega) _
    · have HP1 := Aside0.mk hx
      have HBQ := Aside0.mk (show (∀ y u, (m1 :: t1) = y :: u → y.f0 ≠ 0) from fun y u e => by cases e; exact hx)
      clear hx
      go_wp2_with (first | (go_at_call 81; go_loud ((with_reducible refine (long_bad (m1 :: t1) gr w _ HE0.out.R HBQ.out).mono ?_); rintro e wb ⟨rfl, hb, hk⟩; have HLO := Aside0.mk (HE0.out.lost g3 g2 hk); have HBB := Aside0.mk hb; clear hb hk)))
      refine door_caught ga ge _ _ 4 0 _ _ _ _ _ _ _ _ _ _ _ _ _ rfl rfl (HLO.out).1 (HLO.out).2 (post_none (by rcases t1 with _ | ⟨z3, _ | ⟨z2, _ | ⟨z1, _ | ⟨z0, _⟩⟩⟩⟩ <;> first | rfl | exact if_neg (fun (h : m1.f0 = 0 ∧ z3.f0 = 0 ∧ inr z3.f1 = true ∧ z2.f0 = 0 ∧ inr z2.f1 = true ∧ z1.f0 = 0 ∧ (z1.f1 = 0 ∨ z1.f1 = 1)) => HP1.out h.1)) ?_)
      exact (set12_below HBB.out g0 _ _ _ _ _ _ _ _ _ _ _ _).setCell (by show w.heap.size ≤ ge; omega) _
set_option maxHeartbeats 8000000 in
set_option maxRecDepth 100000 in
theorem read_start (l : List V) (A : Option Addr) (c : Nat) (w : World) (hC : Kd.C k54 w A l.length l) (hc : l.length ≤ c) (FR : V → ByteArray × List A_ × Int) :
    Calls Try.prog 44 #[.int .i64 3, .slice A l.length c] w (PostR w (readA FR 3 l)) := by
  have hfd := fun w => field2 w
  have hmf : ∀ (fn : Fn) (first cap : Array Value) (w : World), (Instr.makeFunc fn first cap).run Try.prog w = .ok (.func fn first cap) w := fun _ _ _ _ => rfl
  have hu1 := Try.underlying107
  have hu2 := Try.underlying161
  have HC := Aside0.mk hC
  have Hc := Aside0.mk hc
  clear hC hc
  go_enter_defers Try.func44, Try.ntmps44
  go_upto_region 4 with fail
  have hE := envR_start 3 l A c w HC.out Hc.out
  generalize ((w.alloc (.cells #[.int .i64 3, .int .i64 0, .int .i64 0, .int .i64 0, .bool false, .int .i64 0, .int .i64 0, .int .i64 0, .int .i64 0, .string ⟨#[]⟩, .string ⟨#[]⟩, .slice none 0 0] 107)).alloc (.cells #[.int .i64 0] 33)).alloc (.cells #[.slice A l.length c] 161) = w3 at hE ⊢
  obtain ⟨ga, hga⟩ : ∃ g, w.heap.size = g := ⟨_, rfl⟩
  obtain ⟨ge, hge⟩ : ∃ g, ga + 1 = g := ⟨_, rfl⟩
  obtain ⟨gr, hgr⟩ : ∃ g, ge + 1 = g := ⟨_, rfl⟩
  rw [hga, hge, hgr] at hE ⊢
  have g0 : w.heap.size ≤ ga := Nat.le_of_eq hga
  have g1 : ga < ge := by omega
  have g2 : ge < gr := by omega
  have g3 : ga < gr := by omega
  have HE0 := Aside0.mk hE
  clear hga hge hgr hE HC Hc
  cases l with
  | nil =>
    have HBQ := Aside0.mk (show (∀ y u, ([] : List V) = y :: u → y.f0 ≠ 1) from fun y u e => by cases e)
    go_wp2_with (first | (go_at_call 84; go_loud ((with_reducible refine (next_bad ([] : List V) 1 gr w _ HE0.out.R HBQ.out).mono ?_); rintro e wb ⟨rfl, hb, hk⟩; have HLO := Aside0.mk (HE0.out.lost g3 g2 hk); have HBB := Aside0.mk hb; clear hb hk)))
    refine door_caught ga ge _ _ 4 0 _ _ _ _ _ _ _ _ _ _ _ _ _ rfl rfl (HLO.out).1 (HLO.out).2 (post_none (rfl) ?_)
    exact (set12_below HBB.out g0 _ _ _ _ _ _ _ _ _ _ _ _).setCell (by show w.heap.size ≤ ge; omega) _
  | cons m1 t1 =>
    by_cases hx : m1.f0 = 1
    · have HP1 := Aside0.mk hx
      clear hx
      go_upto_region 22 with (first | (go_at_call 84; go_loud ((with_reducible refine (next_one m1 _ gr w _ HE0.out.R HP1.out).mono ?_); rintro e w11 ⟨A3_, c3_, rfl, _, _, hr, hk⟩; have HE1 := Aside0.mk (HE0.out.keep g3 g2 hr hk); have k9 : w11.cell? ⟨ga, 9, none⟩ = some (.string ⟨#[]⟩) := (blk_cell HE1.out.A 9).trans rfl; have q9 := blk_frozen HE1.out.A 9; clear hr hk)))
      have hS := (HE1.out.set (cs' := #[.int .i64 3, .int .i64 0, .int .i64 0, .int .i64 0, .bool false, .int .i64 0, .int .i64 0, .int .i64 0, .int .i64 0, .string m1.f2, .string ⟨#[]⟩, .slice none 0 0]) g1 g2 g0 9 (.string m1.f2) rfl)
      clear k9 q9
      generalize (w11.setCell ⟨ga, 9, none⟩ (.string m1.f2)) = w20 at hS ⊢
      have HS0 := Aside0.mk hS
      clear hS
      obtain ⟨Ar, cr, h1, h2, h3⟩ := HS0.out.R.st
      cases t1 with
      | nil =>
        have r0 : w20.cell? ⟨gr, 0, none⟩ = some (.slice Ar 0 cr) := (blk_cell h1 0).trans rfl
        have kk := blk_cell HS0.out.A
        have qq := blk_frozen HS0.out.A
        have ke : w20.cell? ⟨ge, 0, none⟩ = some (.int .i64 0) := (blk_cell HS0.out.E 0).trans rfl
        have qe := blk_frozen HS0.out.E 0
        clear h1 h2 h3
        go_wp2_with (go_at_call 86; go_loud ((with_reducible refine (must_ok _).mono ?_); rintro e w'' ⟨rfl, rfl⟩))
        refine door_idle ga ge _ _ 0 (.int .i64 3) (.int .i64 0) (.int .i64 0) (.int .i64 0) (.bool false) (.int .i64 0) (.int .i64 0) (.int .i64 0) (.int .i64 0) (.string m1.f2) (.string ⟨#[]⟩) (.slice none 0 0) _ rfl rfl (blk_far (set12_v HS0.out.A (.int .i64 3) (.int .i64 0) (.int .i64 0) (.int .i64 0) (.bool false) (.int .i64 0) (.int .i64 0) (.int .i64 0) (.int .i64 0) (.string m1.f2) (.string ⟨#[]⟩) (.slice none 0 0)) (by show ga ≠ ge; omega) _) (blk_put ((set12_o (w := w20) (by show ge ≠ ga; omega) (.int .i64 3) (.int .i64 0) (.int .i64 0) (.int .i64 0) (.bool false) (.int .i64 0) (.int .i64 0) (.int .i64 0) (.int .i64 0) (.string m1.f2) (.string ⟨#[]⟩) (.slice none 0 0)).trans HS0.out.E) 0 _ rfl) (post_some (a := { zA 3 with name := m1.f2 }) (A := none) (c := 0) (if_pos HP1.out) (Nat.le_refl _) (Kd.F_nil _ _ _) ?_)
        exact (set12_below HS0.out.R.hb g0 _ _ _ _ _ _ _ _ _ _ _ _).setCell (by show w.heap.size ≤ ge; omega) _
      | cons y_ t_ =>
        have r0 : w20.cell? ⟨gr, 0, none⟩ = some (.slice Ar (t_.length + 1) cr) := (blk_cell h1 0).trans rfl
        have p0 : ((t_.length : Int) + 1 == 0) = false := by rw [beq_eq_false_iff_ne]; omega
        have p1 : (((t_.length + 1 : Nat) : Int) == 0) = false := by rw [beq_eq_false_iff_ne]; omega
        clear h1 h2 h3
        go_wp2_with (go_at_call 86; go_loud ((with_reducible refine (must_bad _).mono ?_); rintro e w'' ⟨rfl, rfl⟩))
        refine door_caught ga ge _ _ 4 0 (.int .i64 3) (.int .i64 0) (.int .i64 0) (.int .i64 0) (.bool false) (.int .i64 0) (.int .i64 0) (.int .i64 0) (.int .i64 0) (.string m1.f2) (.string ⟨#[]⟩) (.slice none 0 0) _ rfl rfl HS0.out.A HS0.out.E (post_none (rfl) ?_)
        exact (set12_below HS0.out.R.hb g0 _ _ _ _ _ _ _ _ _ _ _ _).setCell (by show w.heap.size ≤ ge; omega) _
    · have HP1 := Aside0.mk hx
      have HBQ := Aside0.mk (show (∀ y u, (m1 :: t1) = y :: u → y.f0 ≠ 1) from fun y u e => by cases e; exact hx)
      clear hx
      go_wp2_with (first | (go_at_call 84; go_loud ((with_reducible refine (next_bad (m1 :: t1) 1 gr w _ HE0.out.R HBQ.out).mono ?_); rintro e wb ⟨rfl, hb, hk⟩; have HLO := Aside0.mk (HE0.out.lost g3 g2 hk); have HBB := Aside0.mk hb; clear hb hk)))
      refine door_caught ga ge _ _ 4 0 _ _ _ _ _ _ _ _ _ _ _ _ _ rfl rfl (HLO.out).1 (HLO.out).2 (post_none (by rcases t1 with _ | ⟨z0, _⟩ <;> first | rfl | exact if_neg (fun (h : m1.f0 = 1) => HP1.out h)) ?_)
      exact (set12_below HBB.out g0 _ _ _ _ _ _ _ _ _ _ _ _).setCell (by show w.heap.size ≤ ge; omega) _
set_option maxHeartbeats 8000000 in
set_option maxRecDepth 100000 in
theorem read_mint (l : List V) (A : Option Addr) (c : Nat) (w : World) (hC : Kd.C k54 w A l.length l) (hc : l.length ≤ c) (FR : V → ByteArray × List A_ × Int) :
    Calls Try.prog 44 #[.int .i64 5, .slice A l.length c] w (PostR w (readA FR 5 l)) := by
  have hmf : ∀ (fn : Fn) (first cap : Array Value) (w : World), (Instr.makeFunc fn first cap).run Try.prog w = .ok (.func fn first cap) w := fun _ _ _ _ => rfl
  have hu1 := Try.underlying107
  have hu2 := Try.underlying161
  have HC := Aside0.mk hC
  have Hc := Aside0.mk hc
  clear hC hc
  go_enter_defers Try.func44, Try.ntmps44
  go_upto_region 4 with fail
  have hE := envR_start 5 l A c w HC.out Hc.out
  generalize ((w.alloc (.cells #[.int .i64 5, .int .i64 0, .int .i64 0, .int .i64 0, .bool false, .int .i64 0, .int .i64 0, .int .i64 0, .int .i64 0, .string ⟨#[]⟩, .string ⟨#[]⟩, .slice none 0 0] 107)).alloc (.cells #[.int .i64 0] 33)).alloc (.cells #[.slice A l.length c] 161) = w3 at hE ⊢
  obtain ⟨ga, hga⟩ : ∃ g, w.heap.size = g := ⟨_, rfl⟩
  obtain ⟨ge, hge⟩ : ∃ g, ga + 1 = g := ⟨_, rfl⟩
  obtain ⟨gr, hgr⟩ : ∃ g, ge + 1 = g := ⟨_, rfl⟩
  rw [hga, hge, hgr] at hE ⊢
  have g0 : w.heap.size ≤ ga := Nat.le_of_eq hga
  have g1 : ga < ge := by omega
  have g2 : ge < gr := by omega
  have g3 : ga < gr := by omega
  have HE0 := Aside0.mk hE
  clear hga hge hgr hE HC Hc
  cases l with
  | nil =>
    have HBQ := Aside0.mk (show (∀ y u, ([] : List V) = y :: u → y.f0 ≠ 0 ∨ inr y.f1 = false) from fun y u e => by cases e)
    go_wp2_with (first | (go_at_call 82; go_loud ((with_reducible refine (short_bad ([] : List V) gr w _ HE0.out.R HBQ.out).mono ?_); rintro e wb ⟨rfl, hb, hk⟩; have HLO := Aside0.mk (HE0.out.lost g3 g2 hk); have HBB := Aside0.mk hb; clear hb hk)))
    refine door_caught ga ge _ _ 4 0 _ _ _ _ _ _ _ _ _ _ _ _ _ rfl rfl (HLO.out).1 (HLO.out).2 (post_none (rfl) ?_)
    exact (set12_below HBB.out g0 _ _ _ _ _ _ _ _ _ _ _ _).setCell (by show w.heap.size ≤ ge; omega) _
  | cons m1 t1 =>
    by_cases hx : m1.f0 = 0 ∧ inr m1.f1 = true
    · have HP1 := Aside0.mk hx
      clear hx
      cases t1 with
      | nil =>
        have HBQ := Aside0.mk (show (∀ y u, ([] : List V) = y :: u → y.f0 ≠ 0) from fun y u e => by cases e)
        go_wp2_with (first | (go_at_call 81; go_loud ((with_reducible refine (long_bad ([] : List V) gr w _ HE1.out.R HBQ.out).mono ?_); rintro e wb ⟨rfl, hb, hk⟩; have HLO := Aside0.mk (HE1.out.lost g3 g2 hk); have HBB := Aside0.mk hb; clear hb hk)) | (go_at_call 82; go_loud ((with_reducible refine (short_ok m1 _ gr w _ HE0.out.R HP1.out.1 HP1.out.2).mono ?_); rintro e w11 ⟨rfl, hr, hk⟩; have HE1 := Aside0.mk (HE0.out.keep g3 g2 hr hk); clear hr hk)))
        refine door_caught ga ge _ _ 4 0 _ _ _ _ _ _ _ _ _ _ _ _ _ rfl rfl (HLO.out).1 (HLO.out).2 (post_none (rfl) ?_)
        exact (set12_below HBB.out g0 _ _ _ _ _ _ _ _ _ _ _ _).setCell (by show w.heap.size ≤ ge; omega) _
      | cons m2 t2 =>
        by_cases hx : m2.f0 = 0
        · have HP2 := Aside0.mk hx
          clear hx
          go_upto_region 22 with (first | (go_at_call 81; go_loud ((with_reducible refine (long_ok m2 _ gr w _ HE1.out.R HP2.out).mono ?_); rintro e w12 ⟨rfl, hr, hk⟩; have HE2 := Aside0.mk (HE1.out.keep g3 g2 hr hk); have k5 : w12.cell? ⟨ga, 5, none⟩ = some (.int .i64 0) := (blk_cell HE2.out.A 5).trans rfl; have q5 := blk_frozen HE2.out.A 5; have k7 : w12.cell? ⟨ga, 7, none⟩ = some (.int .i64 0) := (blk_cell HE2.out.A 7).trans rfl; have q7 := blk_frozen HE2.out.A 7; clear hr hk)) | (go_at_call 82; go_loud ((with_reducible refine (short_ok m1 _ gr w _ HE0.out.R HP1.out.1 HP1.out.2).mono ?_); rintro e w11 ⟨rfl, hr, hk⟩; have HE1 := Aside0.mk (HE0.out.keep g3 g2 hr hk); clear hr hk)))
          have hS := ((HE2.out.set (cs' := #[.int .i64 5, .int .i64 0, .int .i64 0, .int .i64 0, .bool false, .int .i64 m1.f1, .int .i64 0, .int .i64 0, .int .i64 0, .string ⟨#[]⟩, .string ⟨#[]⟩, .slice none 0 0]) g1 g2 g0 5 (.int .i64 m1.f1) rfl).set (cs' := #[.int .i64 5, .int .i64 0, .int .i64 0, .int .i64 0, .bool false, .int .i64 m1.f1, .int .i64 0, .int .i64 m2.f1, .int .i64 0, .string ⟨#[]⟩, .string ⟨#[]⟩, .slice none 0 0]) g1 g2 g0 7 (.int .i64 m2.f1) rfl)
          clear k5 q5 k7 q7
          generalize ((w12.setCell ⟨ga, 5, none⟩ (.int .i64 m1.f1)).setCell ⟨ga, 7, none⟩ (.int .i64 m2.f1)) = w20 at hS ⊢
          have HS0 := Aside0.mk hS
          clear hS
          obtain ⟨Ar, cr, h1, h2, h3⟩ := HS0.out.R.st
          cases t2 with
          | nil =>
            have r0 : w20.cell? ⟨gr, 0, none⟩ = some (.slice Ar 0 cr) := (blk_cell h1 0).trans rfl
            have kk := blk_cell HS0.out.A
            have qq := blk_frozen HS0.out.A
            have ke : w20.cell? ⟨ge, 0, none⟩ = some (.int .i64 0) := (blk_cell HS0.out.E 0).trans rfl
            have qe := blk_frozen HS0.out.E 0
            clear h1 h2 h3
            go_wp2_with (go_at_call 86; go_loud ((with_reducible refine (must_ok _).mono ?_); rintro e w'' ⟨rfl, rfl⟩))
            refine door_idle ga ge _ _ 0 (.int .i64 5) (.int .i64 0) (.int .i64 0) (.int .i64 0) (.bool false) (.int .i64 m1.f1) (.int .i64 0) (.int .i64 m2.f1) (.int .i64 0) (.string ⟨#[]⟩) (.string ⟨#[]⟩) (.slice none 0 0) _ rfl rfl (blk_far (set12_v HS0.out.A (.int .i64 5) (.int .i64 0) (.int .i64 0) (.int .i64 0) (.bool false) (.int .i64 m1.f1) (.int .i64 0) (.int .i64 m2.f1) (.int .i64 0) (.string ⟨#[]⟩) (.string ⟨#[]⟩) (.slice none 0 0)) (by show ga ≠ ge; omega) _) (blk_put ((set12_o (w := w20) (by show ge ≠ ga; omega) (.int .i64 5) (.int .i64 0) (.int .i64 0) (.int .i64 0) (.bool false) (.int .i64 m1.f1) (.int .i64 0) (.int .i64 m2.f1) (.int .i64 0) (.string ⟨#[]⟩) (.string ⟨#[]⟩) (.slice none 0 0)).trans HS0.out.E) 0 _ rfl) (post_some (a := { zA 5 with person := m1.f1, till := m2.f1 }) (A := none) (c := 0) (if_pos (show m1.f0 = 0 ∧ inr m1.f1 = true ∧ m2.f0 = 0 from ⟨HP1.out.1, HP1.out.2, HP2.out⟩)) (Nat.le_refl _) (Kd.F_nil _ _ _) ?_)
            exact (set12_below HS0.out.R.hb g0 _ _ _ _ _ _ _ _ _ _ _ _).setCell (by show w.heap.size ≤ ge; omega) _
          | cons y_ t_ =>
            have r0 : w20.cell? ⟨gr, 0, none⟩ = some (.slice Ar (t_.length + 1) cr) := (blk_cell h1 0).trans rfl
            have p0 : ((t_.length : Int) + 1 == 0) = false := by rw [beq_eq_false_iff_ne]; omega
            have p1 : (((t_.length + 1 : Nat) : Int) == 0) = false := by rw [beq_eq_false_iff_ne]; omega
            clear h1 h2 h3
            go_wp2_with (go_at_call 86; go_loud ((with_reducible refine (must_bad _).mono ?_); rintro e w'' ⟨rfl, rfl⟩))
            refine door_caught ga ge _ _ 4 0 (.int .i64 5) (.int .i64 0) (.int .i64 0) (.int .i64 0) (.bool false) (.int .i64 m1.f1) (.int .i64 0) (.int .i64 m2.f1) (.int .i64 0) (.string ⟨#[]⟩) (.string ⟨#[]⟩) (.slice none 0 0) _ rfl rfl HS0.out.A HS0.out.E (post_none (rfl) ?_)
            exact (set12_below HS0.out.R.hb g0 _ _ _ _ _ _ _ _ _ _ _ _).setCell (by show w.heap.size ≤ ge; omega) _
        · have HP2 := Aside0.mk hx
          have HBQ := Aside0.mk (show (∀ y u, (m2 :: t2) = y :: u → y.f0 ≠ 0) from fun y u e => by cases e; exact hx)
          clear hx
          go_wp2_with (first | (go_at_call 81; go_loud ((with_reducible refine (long_bad (m2 :: t2) gr w _ HE1.out.R HBQ.out).mono ?_); rintro e wb ⟨rfl, hb, hk⟩; have HLO := Aside0.mk (HE1.out.lost g3 g2 hk); have HBB := Aside0.mk hb; clear hb hk)) | (go_at_call 82; go_loud ((with_reducible refine (short_ok m1 _ gr w _ HE0.out.R HP1.out.1 HP1.out.2).mono ?_); rintro e w11 ⟨rfl, hr, hk⟩; have HE1 := Aside0.mk (HE0.out.keep g3 g2 hr hk); clear hr hk)))
          refine door_caught ga ge _ _ 4 0 _ _ _ _ _ _ _ _ _ _ _ _ _ rfl rfl (HLO.out).1 (HLO.out).2 (post_none (by rcases t2 with _ | ⟨z0, _⟩ <;> first | rfl | exact if_neg (fun (h : m1.f0 = 0 ∧ inr m1.f1 = true ∧ m2.f0 = 0) => HP2.out h.2.2)) ?_)
          exact (set12_below HBB.out g0 _ _ _ _ _ _ _ _ _ _ _ _).setCell (by show w.heap.size ≤ ge; omega) _
    · have HP1 := Aside0.mk hx
      have HBQ := Aside0.mk (show (∀ y u, (m1 :: t1) = y :: u → y.f0 ≠ 0 ∨ inr y.f1 = false) from fun y u e => by cases e; exact not_short hx)
      clear hx
      go_wp2_with (first | (go_at_call 82; go_loud ((with_reducible refine (short_bad (m1 :: t1) gr w _ HE0.out.R HBQ.out).mono ?_); rintro e wb ⟨rfl, hb, hk⟩; have HLO := Aside0.mk (HE0.out.lost g3 g2 hk); have HBB := Aside0.mk hb; clear hb hk)))
      refine door_caught ga ge _ _ 4 0 _ _ _ _ _ _ _ _ _ _ _ _ _ rfl rfl (HLO.out).1 (HLO.out).2 (post_none (by rcases t1 with _ | ⟨z1, _ | ⟨z0, _⟩⟩ <;> first | rfl | exact if_neg (fun (h : m1.f0 = 0 ∧ inr m1.f1 = true ∧ z1.f0 = 0) => HP1.out ⟨h.1, h.2.1⟩)) ?_)
      exact (set12_below HBB.out g0 _ _ _ _ _ _ _ _ _ _ _ _).setCell (by show w.heap.size ≤ ge; omega) _
set_option maxHeartbeats 8000000 in
set_option maxRecDepth 100000 in
theorem read_assign (l : List V) (A : Option Addr) (c : Nat) (w : World) (hC : Kd.C k54 w A l.length l) (hc : l.length ≤ c) (FR : V → ByteArray × List A_ × Int) :
    Calls Try.prog 44 #[.int .i64 6, .slice A l.length c] w (PostR w (readA FR 6 l)) := by
  have hmf : ∀ (fn : Fn) (first cap : Array Value) (w : World), (Instr.makeFunc fn first cap).run Try.prog w = .ok (.func fn first cap) w := fun _ _ _ _ => rfl
  have hu1 := Try.underlying107
  have hu2 := Try.underlying161
  have HC := Aside0.mk hC
  have Hc := Aside0.mk hc
  clear hC hc
  go_enter_defers Try.func44, Try.ntmps44
  go_upto_region 4 with fail
  have hE := envR_start 6 l A c w HC.out Hc.out
  generalize ((w.alloc (.cells #[.int .i64 6, .int .i64 0, .int .i64 0, .int .i64 0, .bool false, .int .i64 0, .int .i64 0, .int .i64 0, .int .i64 0, .string ⟨#[]⟩, .string ⟨#[]⟩, .slice none 0 0] 107)).alloc (.cells #[.int .i64 0] 33)).alloc (.cells #[.slice A l.length c] 161) = w3 at hE ⊢
  obtain ⟨ga, hga⟩ : ∃ g, w.heap.size = g := ⟨_, rfl⟩
  obtain ⟨ge, hge⟩ : ∃ g, ga + 1 = g := ⟨_, rfl⟩
  obtain ⟨gr, hgr⟩ : ∃ g, ge + 1 = g := ⟨_, rfl⟩
  rw [hga, hge, hgr] at hE ⊢
  have g0 : w.heap.size ≤ ga := Nat.le_of_eq hga
  have g1 : ga < ge := by omega
  have g2 : ge < gr := by omega
  have g3 : ga < gr := by omega
  have HE0 := Aside0.mk hE
  clear hga hge hgr hE HC Hc
  cases l with
  | nil =>
    have HBQ := Aside0.mk (show (∀ y u, ([] : List V) = y :: u → y.f0 ≠ 0 ∨ inr y.f1 = false) from fun y u e => by cases e)
    go_wp2_with (first | (go_at_call 82; go_loud ((with_reducible refine (short_bad ([] : List V) gr w _ HE0.out.R HBQ.out).mono ?_); rintro e wb ⟨rfl, hb, hk⟩; have HLO := Aside0.mk (HE0.out.lost g3 g2 hk); have HBB := Aside0.mk hb; clear hb hk)))
    refine door_caught ga ge _ _ 4 0 _ _ _ _ _ _ _ _ _ _ _ _ _ rfl rfl (HLO.out).1 (HLO.out).2 (post_none (rfl) ?_)
    exact (set12_below HBB.out g0 _ _ _ _ _ _ _ _ _ _ _ _).setCell (by show w.heap.size ≤ ge; omega) _
  | cons m1 t1 =>
    by_cases hx : m1.f0 = 0 ∧ inr m1.f1 = true
    · have HP1 := Aside0.mk hx
      clear hx
      cases t1 with
      | nil =>
        have HBQ := Aside0.mk (show (∀ y u, ([] : List V) = y :: u → y.f0 ≠ 0 ∨ inr y.f1 = false) from fun y u e => by cases e)
        go_wp2_with (first | (go_at_call 82; go_loud ((with_reducible refine (short_bad ([] : List V) gr w _ HE1.out.R HBQ.out).mono ?_); rintro e wb ⟨rfl, hb, hk⟩; have HLO := Aside0.mk (HE1.out.lost g3 g2 hk); have HBB := Aside0.mk hb; clear hb hk)) | (go_at_call 82; go_loud ((with_reducible refine (short_ok m1 _ gr w _ HE0.out.R HP1.out.1 HP1.out.2).mono ?_); rintro e w11 ⟨rfl, hr, hk⟩; have HE1 := Aside0.mk (HE0.out.keep g3 g2 hr hk); clear hr hk)))
        refine door_caught ga ge _ _ 4 0 _ _ _ _ _ _ _ _ _ _ _ _ _ rfl rfl (HLO.out).1 (HLO.out).2 (post_none (rfl) ?_)
        exact (set12_below HBB.out g0 _ _ _ _ _ _ _ _ _ _ _ _).setCell (by show w.heap.size ≤ ge; omega) _
      | cons m2 t2 =>
        by_cases hx : m2.f0 = 0 ∧ inr m2.f1 = true
        · have HP2 := Aside0.mk hx
          clear hx
          go_upto_region 22 with (first | (go_at_call 82; go_loud ((with_reducible refine (short_ok m2 _ gr w _ HE1.out.R HP2.out.1 HP2.out.2).mono ?_); rintro e w12 ⟨rfl, hr, hk⟩; have HE2 := Aside0.mk (HE1.out.keep g3 g2 hr hk); have k5 : w12.cell? ⟨ga, 5, none⟩ = some (.int .i64 0) := (blk_cell HE2.out.A 5).trans rfl; have q5 := blk_frozen HE2.out.A 5; have k6 : w12.cell? ⟨ga, 6, none⟩ = some (.int .i64 0) := (blk_cell HE2.out.A 6).trans rfl; have q6 := blk_frozen HE2.out.A 6; clear hr hk)) | (go_at_call 82; go_loud ((with_reducible refine (short_ok m1 _ gr w _ HE0.out.R HP1.out.1 HP1.out.2).mono ?_); rintro e w11 ⟨rfl, hr, hk⟩; have HE1 := Aside0.mk (HE0.out.keep g3 g2 hr hk); clear hr hk)))
          have hS := ((HE2.out.set (cs' := #[.int .i64 6, .int .i64 0, .int .i64 0, .int .i64 0, .bool false, .int .i64 m1.f1, .int .i64 0, .int .i64 0, .int .i64 0, .string ⟨#[]⟩, .string ⟨#[]⟩, .slice none 0 0]) g1 g2 g0 5 (.int .i64 m1.f1) rfl).set (cs' := #[.int .i64 6, .int .i64 0, .int .i64 0, .int .i64 0, .bool false, .int .i64 m1.f1, .int .i64 m2.f1, .int .i64 0, .int .i64 0, .string ⟨#[]⟩, .string ⟨#[]⟩, .slice none 0 0]) g1 g2 g0 6 (.int .i64 m2.f1) rfl)
          clear k5 q5 k6 q6
          generalize ((w12.setCell ⟨ga, 5, none⟩ (.int .i64 m1.f1)).setCell ⟨ga, 6, none⟩ (.int .i64 m2.f1)) = w20 at hS ⊢
          have HS0 := Aside0.mk hS
          clear hS
          obtain ⟨Ar, cr, h1, h2, h3⟩ := HS0.out.R.st
          cases t2 with
          | nil =>
            have r0 : w20.cell? ⟨gr, 0, none⟩ = some (.slice Ar 0 cr) := (blk_cell h1 0).trans rfl
            have kk := blk_cell HS0.out.A
            have qq := blk_frozen HS0.out.A
            have ke : w20.cell? ⟨ge, 0, none⟩ = some (.int .i64 0) := (blk_cell HS0.out.E 0).trans rfl
            have qe := blk_frozen HS0.out.E 0
            clear h1 h2 h3
            go_wp2_with (go_at_call 86; go_loud ((with_reducible refine (must_ok _).mono ?_); rintro e w'' ⟨rfl, rfl⟩))
            refine door_idle ga ge _ _ 0 (.int .i64 6) (.int .i64 0) (.int .i64 0) (.int .i64 0) (.bool false) (.int .i64 m1.f1) (.int .i64 m2.f1) (.int .i64 0) (.int .i64 0) (.string ⟨#[]⟩) (.string ⟨#[]⟩) (.slice none 0 0) _ rfl rfl (blk_far (set12_v HS0.out.A (.int .i64 6) (.int .i64 0) (.int .i64 0) (.int .i64 0) (.bool false) (.int .i64 m1.f1) (.int .i64 m2.f1) (.int .i64 0) (.int .i64 0) (.string ⟨#[]⟩) (.string ⟨#[]⟩) (.slice none 0 0)) (by show ga ≠ ge; omega) _) (blk_put ((set12_o (w := w20) (by show ge ≠ ga; omega) (.int .i64 6) (.int .i64 0) (.int .i64 0) (.int .i64 0) (.bool false) (.int .i64 m1.f1) (.int .i64 m2.f1) (.int .i64 0) (.int .i64 0) (.string ⟨#[]⟩) (.string ⟨#[]⟩) (.slice none 0 0)).trans HS0.out.E) 0 _ rfl) (post_some (a := { zA 6 with person := m1.f1, role := m2.f1 }) (A := none) (c := 0) (if_pos (show m1.f0 = 0 ∧ inr m1.f1 = true ∧ m2.f0 = 0 ∧ inr m2.f1 = true from ⟨HP1.out.1, HP1.out.2, HP2.out.1, HP2.out.2⟩)) (Nat.le_refl _) (Kd.F_nil _ _ _) ?_)
            exact (set12_below HS0.out.R.hb g0 _ _ _ _ _ _ _ _ _ _ _ _).setCell (by show w.heap.size ≤ ge; omega) _
          | cons y_ t_ =>
            have r0 : w20.cell? ⟨gr, 0, none⟩ = some (.slice Ar (t_.length + 1) cr) := (blk_cell h1 0).trans rfl
            have p0 : ((t_.length : Int) + 1 == 0) = false := by rw [beq_eq_false_iff_ne]; omega
            have p1 : (((t_.length + 1 : Nat) : Int) == 0) = false := by rw [beq_eq_false_iff_ne]; omega
            clear h1 h2 h3
            go_wp2_with (go_at_call 86; go_loud ((with_reducible refine (must_bad _).mono ?_); rintro e w'' ⟨rfl, rfl⟩))
            refine door_caught ga ge _ _ 4 0 (.int .i64 6) (.int .i64 0) (.int .i64 0) (.int .i64 0) (.bool false) (.int .i64 m1.f1) (.int .i64 m2.f1) (.int .i64 0) (.int .i64 0) (.string ⟨#[]⟩) (.string ⟨#[]⟩) (.slice none 0 0) _ rfl rfl HS0.out.A HS0.out.E (post_none (rfl) ?_)
            exact (set12_below HS0.out.R.hb g0 _ _ _ _ _ _ _ _ _ _ _ _).setCell (by show w.heap.size ≤ ge; omega) _
        · have HP2 := Aside0.mk hx
          have HBQ := Aside0.mk (show (∀ y u, (m2 :: t2) = y :: u → y.f0 ≠ 0 ∨ inr y.f1 = false) from fun y u e => by cases e; exact not_short hx)
          clear hx
          go_wp2_with (first | (go_at_call 82; go_loud ((with_reducible refine (short_bad (m2 :: t2) gr w _ HE1.out.R HBQ.out).mono ?_); rintro e wb ⟨rfl, hb, hk⟩; have HLO := Aside0.mk (HE1.out.lost g3 g2 hk); have HBB := Aside0.mk hb; clear hb hk)) | (go_at_call 82; go_loud ((with_reducible refine (short_ok m1 _ gr w _ HE0.out.R HP1.out.1 HP1.out.2).mono ?_); rintro e w11 ⟨rfl, hr, hk⟩; have HE1 := Aside0.mk (HE0.out.keep g3 g2 hr hk); clear hr hk)))
          refine door_caught ga ge _ _ 4 0 _ _ _ _ _ _ _ _ _ _ _ _ _ rfl rfl (HLO.out).1 (HLO.out).2 (post_none (by rcases t2 with _ | ⟨z0, _⟩ <;> first | rfl | exact if_neg (fun (h : m1.f0 = 0 ∧ inr m1.f1 = true ∧ m2.f0 = 0 ∧ inr m2.f1 = true) => HP2.out ⟨h.2.2.1, h.2.2.2⟩)) ?_)
          exact (set12_below HBB.out g0 _ _ _ _ _ _ _ _ _ _ _ _).setCell (by show w.heap.size ≤ ge; omega) _
    · have HP1 := Aside0.mk hx
      have HBQ := Aside0.mk (show (∀ y u, (m1 :: t1) = y :: u → y.f0 ≠ 0 ∨ inr y.f1 = false) from fun y u e => by cases e; exact not_short hx)
      clear hx
      go_wp2_with (first | (go_at_call 82; go_loud ((with_reducible refine (short_bad (m1 :: t1) gr w _ HE0.out.R HBQ.out).mono ?_); rintro e wb ⟨rfl, hb, hk⟩; have HLO := Aside0.mk (HE0.out.lost g3 g2 hk); have HBB := Aside0.mk hb; clear hb hk)))
      refine door_caught ga ge _ _ 4 0 _ _ _ _ _ _ _ _ _ _ _ _ _ rfl rfl (HLO.out).1 (HLO.out).2 (post_none (by rcases t1 with _ | ⟨z1, _ | ⟨z0, _⟩⟩ <;> first | rfl | exact if_neg (fun (h : m1.f0 = 0 ∧ inr m1.f1 = true ∧ z1.f0 = 0 ∧ inr z1.f1 = true) => HP1.out ⟨h.1, h.2.1⟩)) ?_)
      exact (set12_below HBB.out g0 _ _ _ _ _ _ _ _ _ _ _ _).setCell (by show w.heap.size ≤ ge; omega) _
set_option maxHeartbeats 8000000 in
set_option maxRecDepth 100000 in
theorem read_grant (l : List V) (A : Option Addr) (c : Nat) (w : World) (hC : Kd.C k54 w A l.length l) (hc : l.length ≤ c) (FR : V → ByteArray × List A_ × Int) :
    Calls Try.prog 44 #[.int .i64 8, .slice A l.length c] w (PostR w (readA FR 8 l)) := by
  have hfd := fun w => field2 w
  have hmf : ∀ (fn : Fn) (first cap : Array Value) (w : World), (Instr.makeFunc fn first cap).run Try.prog w = .ok (.func fn first cap) w := fun _ _ _ _ => rfl
  have hu1 := Try.underlying107
  have hu2 := Try.underlying161
  have HC := Aside0.mk hC
  have Hc := Aside0.mk hc
  clear hC hc
  go_enter_defers Try.func44, Try.ntmps44
  go_upto_region 4 with fail
  have hE := envR_start 8 l A c w HC.out Hc.out
  generalize ((w.alloc (.cells #[.int .i64 8, .int .i64 0, .int .i64 0, .int .i64 0, .bool false, .int .i64 0, .int .i64 0, .int .i64 0, .int .i64 0, .string ⟨#[]⟩, .string ⟨#[]⟩, .slice none 0 0] 107)).alloc (.cells #[.int .i64 0] 33)).alloc (.cells #[.slice A l.length c] 161) = w3 at hE ⊢
  obtain ⟨ga, hga⟩ : ∃ g, w.heap.size = g := ⟨_, rfl⟩
  obtain ⟨ge, hge⟩ : ∃ g, ga + 1 = g := ⟨_, rfl⟩
  obtain ⟨gr, hgr⟩ : ∃ g, ge + 1 = g := ⟨_, rfl⟩
  rw [hga, hge, hgr] at hE ⊢
  have g0 : w.heap.size ≤ ga := Nat.le_of_eq hga
  have g1 : ga < ge := by omega
  have g2 : ge < gr := by omega
  have g3 : ga < gr := by omega
  have HE0 := Aside0.mk hE
  clear hga hge hgr hE HC Hc
  cases l with
  | nil =>
    have HBQ := Aside0.mk (show (∀ y u, ([] : List V) = y :: u → y.f0 ≠ 0 ∨ inr y.f1 = false) from fun y u e => by cases e)
    go_wp2_with (first | (go_at_call 82; go_loud ((with_reducible refine (short_bad ([] : List V) gr w _ HE0.out.R HBQ.out).mono ?_); rintro e wb ⟨rfl, hb, hk⟩; have HLO := Aside0.mk (HE0.out.lost g3 g2 hk); have HBB := Aside0.mk hb; clear hb hk)))
    refine door_caught ga ge _ _ 4 0 _ _ _ _ _ _ _ _ _ _ _ _ _ rfl rfl (HLO.out).1 (HLO.out).2 (post_none (rfl) ?_)
    exact (set12_below HBB.out g0 _ _ _ _ _ _ _ _ _ _ _ _).setCell (by show w.heap.size ≤ ge; omega) _
  | cons m1 t1 =>
    by_cases hx : m1.f0 = 0 ∧ inr m1.f1 = true
    · have HP1 := Aside0.mk hx
      clear hx
      cases t1 with
      | nil =>
        have HBQ := Aside0.mk (show (∀ y u, ([] : List V) = y :: u → y.f0 ≠ 1) from fun y u e => by cases e)
        go_wp2_with (first | (go_at_call 84; go_loud ((with_reducible refine (next_bad ([] : List V) 1 gr w _ HE1.out.R HBQ.out).mono ?_); rintro e wb ⟨rfl, hb, hk⟩; have HLO := Aside0.mk (HE1.out.lost g3 g2 hk); have HBB := Aside0.mk hb; clear hb hk)) | (go_at_call 82; go_loud ((with_reducible refine (short_ok m1 _ gr w _ HE0.out.R HP1.out.1 HP1.out.2).mono ?_); rintro e w11 ⟨rfl, hr, hk⟩; have HE1 := Aside0.mk (HE0.out.keep g3 g2 hr hk); clear hr hk)))
        refine door_caught ga ge _ _ 4 0 _ _ _ _ _ _ _ _ _ _ _ _ _ rfl rfl (HLO.out).1 (HLO.out).2 (post_none (rfl) ?_)
        exact (set12_below HBB.out g0 _ _ _ _ _ _ _ _ _ _ _ _).setCell (by show w.heap.size ≤ ge; omega) _
      | cons m2 t2 =>
        by_cases hx : m2.f0 = 1
        · have HP2 := Aside0.mk hx
          clear hx
          go_upto_region 22 with (first | (go_at_call 84; go_loud ((with_reducible refine (next_one m2 _ gr w _ HE1.out.R HP2.out).mono ?_); rintro e w12 ⟨A3_, c3_, rfl, _, _, hr, hk⟩; have HE2 := Aside0.mk (HE1.out.keep g3 g2 hr hk); have k8 : w12.cell? ⟨ga, 8, none⟩ = some (.int .i64 0) := (blk_cell HE2.out.A 8).trans rfl; have q8 := blk_frozen HE2.out.A 8; have k9 : w12.cell? ⟨ga, 9, none⟩ = some (.string ⟨#[]⟩) := (blk_cell HE2.out.A 9).trans rfl; have q9 := blk_frozen HE2.out.A 9; clear hr hk)) | (go_at_call 82; go_loud ((with_reducible refine (short_ok m1 _ gr w _ HE0.out.R HP1.out.1 HP1.out.2).mono ?_); rintro e w11 ⟨rfl, hr, hk⟩; have HE1 := Aside0.mk (HE0.out.keep g3 g2 hr hk); clear hr hk)))
          have hS := ((HE2.out.set (cs' := #[.int .i64 8, .int .i64 0, .int .i64 0, .int .i64 0, .bool false, .int .i64 0, .int .i64 0, .int .i64 0, .int .i64 m1.f1, .string ⟨#[]⟩, .string ⟨#[]⟩, .slice none 0 0]) g1 g2 g0 8 (.int .i64 m1.f1) rfl).set (cs' := #[.int .i64 8, .int .i64 0, .int .i64 0, .int .i64 0, .bool false, .int .i64 0, .int .i64 0, .int .i64 0, .int .i64 m1.f1, .string m2.f2, .string ⟨#[]⟩, .slice none 0 0]) g1 g2 g0 9 (.string m2.f2) rfl)
          clear k8 q8 k9 q9
          generalize ((w12.setCell ⟨ga, 8, none⟩ (.int .i64 m1.f1)).setCell ⟨ga, 9, none⟩ (.string m2.f2)) = w20 at hS ⊢
          have HS0 := Aside0.mk hS
          clear hS
          obtain ⟨Ar, cr, h1, h2, h3⟩ := HS0.out.R.st
          cases t2 with
          | nil =>
            have r0 : w20.cell? ⟨gr, 0, none⟩ = some (.slice Ar 0 cr) := (blk_cell h1 0).trans rfl
            have kk := blk_cell HS0.out.A
            have qq := blk_frozen HS0.out.A
            have ke : w20.cell? ⟨ge, 0, none⟩ = some (.int .i64 0) := (blk_cell HS0.out.E 0).trans rfl
            have qe := blk_frozen HS0.out.E 0
            clear h1 h2 h3
            go_wp2_with (go_at_call 86; go_loud ((with_reducible refine (must_ok _).mono ?_); rintro e w'' ⟨rfl, rfl⟩))
            refine door_idle ga ge _ _ 0 (.int .i64 8) (.int .i64 0) (.int .i64 0) (.int .i64 0) (.bool false) (.int .i64 0) (.int .i64 0) (.int .i64 0) (.int .i64 m1.f1) (.string m2.f2) (.string ⟨#[]⟩) (.slice none 0 0) _ rfl rfl (blk_far (set12_v HS0.out.A (.int .i64 8) (.int .i64 0) (.int .i64 0) (.int .i64 0) (.bool false) (.int .i64 0) (.int .i64 0) (.int .i64 0) (.int .i64 m1.f1) (.string m2.f2) (.string ⟨#[]⟩) (.slice none 0 0)) (by show ga ≠ ge; omega) _) (blk_put ((set12_o (w := w20) (by show ge ≠ ga; omega) (.int .i64 8) (.int .i64 0) (.int .i64 0) (.int .i64 0) (.bool false) (.int .i64 0) (.int .i64 0) (.int .i64 0) (.int .i64 m1.f1) (.string m2.f2) (.string ⟨#[]⟩) (.slice none 0 0)).trans HS0.out.E) 0 _ rfl) (post_some (a := { zA 8 with caller := m1.f1, name := m2.f2 }) (A := none) (c := 0) (if_pos (show m1.f0 = 0 ∧ inr m1.f1 = true ∧ m2.f0 = 1 from ⟨HP1.out.1, HP1.out.2, HP2.out⟩)) (Nat.le_refl _) (Kd.F_nil _ _ _) ?_)
            exact (set12_below HS0.out.R.hb g0 _ _ _ _ _ _ _ _ _ _ _ _).setCell (by show w.heap.size ≤ ge; omega) _
          | cons y_ t_ =>
            have r0 : w20.cell? ⟨gr, 0, none⟩ = some (.slice Ar (t_.length + 1) cr) := (blk_cell h1 0).trans rfl
            have p0 : ((t_.length : Int) + 1 == 0) = false := by rw [beq_eq_false_iff_ne]; omega
            have p1 : (((t_.length + 1 : Nat) : Int) == 0) = false := by rw [beq_eq_false_iff_ne]; omega
            clear h1 h2 h3
            go_wp2_with (go_at_call 86; go_loud ((with_reducible refine (must_bad _).mono ?_); rintro e w'' ⟨rfl, rfl⟩))
            refine door_caught ga ge _ _ 4 0 (.int .i64 8) (.int .i64 0) (.int .i64 0) (.int .i64 0) (.bool false) (.int .i64 0) (.int .i64 0) (.int .i64 0) (.int .i64 m1.f1) (.string m2.f2) (.string ⟨#[]⟩) (.slice none 0 0) _ rfl rfl HS0.out.A HS0.out.E (post_none (rfl) ?_)
            exact (set12_below HS0.out.R.hb g0 _ _ _ _ _ _ _ _ _ _ _ _).setCell (by show w.heap.size ≤ ge; omega) _
        · have HP2 := Aside0.mk hx
          have HBQ := Aside0.mk (show (∀ y u, (m2 :: t2) = y :: u → y.f0 ≠ 1) from fun y u e => by cases e; exact hx)
          clear hx
          go_wp2_with (first | (go_at_call 84; go_loud ((with_reducible refine (next_bad (m2 :: t2) 1 gr w _ HE1.out.R HBQ.out).mono ?_); rintro e wb ⟨rfl, hb, hk⟩; have HLO := Aside0.mk (HE1.out.lost g3 g2 hk); have HBB := Aside0.mk hb; clear hb hk)) | (go_at_call 82; go_loud ((with_reducible refine (short_ok m1 _ gr w _ HE0.out.R HP1.out.1 HP1.out.2).mono ?_); rintro e w11 ⟨rfl, hr, hk⟩; have HE1 := Aside0.mk (HE0.out.keep g3 g2 hr hk); clear hr hk)))
          refine door_caught ga ge _ _ 4 0 _ _ _ _ _ _ _ _ _ _ _ _ _ rfl rfl (HLO.out).1 (HLO.out).2 (post_none (by rcases t2 with _ | ⟨z0, _⟩ <;> first | rfl | exact if_neg (fun (h : m1.f0 = 0 ∧ inr m1.f1 = true ∧ m2.f0 = 1) => HP2.out h.2.2)) ?_)
          exact (set12_below HBB.out g0 _ _ _ _ _ _ _ _ _ _ _ _).setCell (by show w.heap.size ≤ ge; omega) _
    · have HP1 := Aside0.mk hx
      have HBQ := Aside0.mk (show (∀ y u, (m1 :: t1) = y :: u → y.f0 ≠ 0 ∨ inr y.f1 = false) from fun y u e => by cases e; exact not_short hx)
      clear hx
      go_wp2_with (first | (go_at_call 82; go_loud ((with_reducible refine (short_bad (m1 :: t1) gr w _ HE0.out.R HBQ.out).mono ?_); rintro e wb ⟨rfl, hb, hk⟩; have HLO := Aside0.mk (HE0.out.lost g3 g2 hk); have HBB := Aside0.mk hb; clear hb hk)))
      refine door_caught ga ge _ _ 4 0 _ _ _ _ _ _ _ _ _ _ _ _ _ rfl rfl (HLO.out).1 (HLO.out).2 (post_none (by rcases t1 with _ | ⟨z1, _ | ⟨z0, _⟩⟩ <;> first | rfl | exact if_neg (fun (h : m1.f0 = 0 ∧ inr m1.f1 = true ∧ z1.f0 = 1) => HP1.out ⟨h.1, h.2.1⟩)) ?_)
      exact (set12_below HBB.out g0 _ _ _ _ _ _ _ _ _ _ _ _).setCell (by show w.heap.size ≤ ge; omega) _
set_option maxHeartbeats 8000000 in
set_option maxRecDepth 100000 in
theorem read_ungrant (l : List V) (A : Option Addr) (c : Nat) (w : World) (hC : Kd.C k54 w A l.length l) (hc : l.length ≤ c) (FR : V → ByteArray × List A_ × Int) :
    Calls Try.prog 44 #[.int .i64 9, .slice A l.length c] w (PostR w (readA FR 9 l)) := by
  have hfd := fun w => field2 w
  have hmf : ∀ (fn : Fn) (first cap : Array Value) (w : World), (Instr.makeFunc fn first cap).run Try.prog w = .ok (.func fn first cap) w := fun _ _ _ _ => rfl
  have hu1 := Try.underlying107
  have hu2 := Try.underlying161
  have HC := Aside0.mk hC
  have Hc := Aside0.mk hc
  clear hC hc
  go_enter_defers Try.func44, Try.ntmps44
  go_upto_region 4 with fail
  have hE := envR_start 9 l A c w HC.out Hc.out
  generalize ((w.alloc (.cells #[.int .i64 9, .int .i64 0, .int .i64 0, .int .i64 0, .bool false, .int .i64 0, .int .i64 0, .int .i64 0, .int .i64 0, .string ⟨#[]⟩, .string ⟨#[]⟩, .slice none 0 0] 107)).alloc (.cells #[.int .i64 0] 33)).alloc (.cells #[.slice A l.length c] 161) = w3 at hE ⊢
  obtain ⟨ga, hga⟩ : ∃ g, w.heap.size = g := ⟨_, rfl⟩
  obtain ⟨ge, hge⟩ : ∃ g, ga + 1 = g := ⟨_, rfl⟩
  obtain ⟨gr, hgr⟩ : ∃ g, ge + 1 = g := ⟨_, rfl⟩
  rw [hga, hge, hgr] at hE ⊢
  have g0 : w.heap.size ≤ ga := Nat.le_of_eq hga
  have g1 : ga < ge := by omega
  have g2 : ge < gr := by omega
  have g3 : ga < gr := by omega
  have HE0 := Aside0.mk hE
  clear hga hge hgr hE HC Hc
  cases l with
  | nil =>
    have HBQ := Aside0.mk (show (∀ y u, ([] : List V) = y :: u → y.f0 ≠ 0 ∨ inr y.f1 = false) from fun y u e => by cases e)
    go_wp2_with (first | (go_at_call 82; go_loud ((with_reducible refine (short_bad ([] : List V) gr w _ HE0.out.R HBQ.out).mono ?_); rintro e wb ⟨rfl, hb, hk⟩; have HLO := Aside0.mk (HE0.out.lost g3 g2 hk); have HBB := Aside0.mk hb; clear hb hk)))
    refine door_caught ga ge _ _ 4 0 _ _ _ _ _ _ _ _ _ _ _ _ _ rfl rfl (HLO.out).1 (HLO.out).2 (post_none (rfl) ?_)
    exact (set12_below HBB.out g0 _ _ _ _ _ _ _ _ _ _ _ _).setCell (by show w.heap.size ≤ ge; omega) _
  | cons m1 t1 =>
    by_cases hx : m1.f0 = 0 ∧ inr m1.f1 = true
    · have HP1 := Aside0.mk hx
      clear hx
      cases t1 with
      | nil =>
        have HBQ := Aside0.mk (show (∀ y u, ([] : List V) = y :: u → y.f0 ≠ 1) from fun y u e => by cases e)
        go_wp2_with (first | (go_at_call 84; go_loud ((with_reducible refine (next_bad ([] : List V) 1 gr w _ HE1.out.R HBQ.out).mono ?_); rintro e wb ⟨rfl, hb, hk⟩; have HLO := Aside0.mk (HE1.out.lost g3 g2 hk); have HBB := Aside0.mk hb; clear hb hk)) | (go_at_call 82; go_loud ((with_reducible refine (short_ok m1 _ gr w _ HE0.out.R HP1.out.1 HP1.out.2).mono ?_); rintro e w11 ⟨rfl, hr, hk⟩; have HE1 := Aside0.mk (HE0.out.keep g3 g2 hr hk); clear hr hk)))
        refine door_caught ga ge _ _ 4 0 _ _ _ _ _ _ _ _ _ _ _ _ _ rfl rfl (HLO.out).1 (HLO.out).2 (post_none (rfl) ?_)
        exact (set12_below HBB.out g0 _ _ _ _ _ _ _ _ _ _ _ _).setCell (by show w.heap.size ≤ ge; omega) _
      | cons m2 t2 =>
        by_cases hx : m2.f0 = 1
        · have HP2 := Aside0.mk hx
          clear hx
          go_upto_region 22 with (first | (go_at_call 84; go_loud ((with_reducible refine (next_one m2 _ gr w _ HE1.out.R HP2.out).mono ?_); rintro e w12 ⟨A3_, c3_, rfl, _, _, hr, hk⟩; have HE2 := Aside0.mk (HE1.out.keep g3 g2 hr hk); have k8 : w12.cell? ⟨ga, 8, none⟩ = some (.int .i64 0) := (blk_cell HE2.out.A 8).trans rfl; have q8 := blk_frozen HE2.out.A 8; have k9 : w12.cell? ⟨ga, 9, none⟩ = some (.string ⟨#[]⟩) := (blk_cell HE2.out.A 9).trans rfl; have q9 := blk_frozen HE2.out.A 9; clear hr hk)) | (go_at_call 82; go_loud ((with_reducible refine (short_ok m1 _ gr w _ HE0.out.R HP1.out.1 HP1.out.2).mono ?_); rintro e w11 ⟨rfl, hr, hk⟩; have HE1 := Aside0.mk (HE0.out.keep g3 g2 hr hk); clear hr hk)))
          have hS := ((HE2.out.set (cs' := #[.int .i64 9, .int .i64 0, .int .i64 0, .int .i64 0, .bool false, .int .i64 0, .int .i64 0, .int .i64 0, .int .i64 m1.f1, .string ⟨#[]⟩, .string ⟨#[]⟩, .slice none 0 0]) g1 g2 g0 8 (.int .i64 m1.f1) rfl).set (cs' := #[.int .i64 9, .int .i64 0, .int .i64 0, .int .i64 0, .bool false, .int .i64 0, .int .i64 0, .int .i64 0, .int .i64 m1.f1, .string m2.f2, .string ⟨#[]⟩, .slice none 0 0]) g1 g2 g0 9 (.string m2.f2) rfl)
          clear k8 q8 k9 q9
          generalize ((w12.setCell ⟨ga, 8, none⟩ (.int .i64 m1.f1)).setCell ⟨ga, 9, none⟩ (.string m2.f2)) = w20 at hS ⊢
          have HS0 := Aside0.mk hS
          clear hS
          obtain ⟨Ar, cr, h1, h2, h3⟩ := HS0.out.R.st
          cases t2 with
          | nil =>
            have r0 : w20.cell? ⟨gr, 0, none⟩ = some (.slice Ar 0 cr) := (blk_cell h1 0).trans rfl
            have kk := blk_cell HS0.out.A
            have qq := blk_frozen HS0.out.A
            have ke : w20.cell? ⟨ge, 0, none⟩ = some (.int .i64 0) := (blk_cell HS0.out.E 0).trans rfl
            have qe := blk_frozen HS0.out.E 0
            clear h1 h2 h3
            go_wp2_with (go_at_call 86; go_loud ((with_reducible refine (must_ok _).mono ?_); rintro e w'' ⟨rfl, rfl⟩))
            refine door_idle ga ge _ _ 0 (.int .i64 9) (.int .i64 0) (.int .i64 0) (.int .i64 0) (.bool false) (.int .i64 0) (.int .i64 0) (.int .i64 0) (.int .i64 m1.f1) (.string m2.f2) (.string ⟨#[]⟩) (.slice none 0 0) _ rfl rfl (blk_far (set12_v HS0.out.A (.int .i64 9) (.int .i64 0) (.int .i64 0) (.int .i64 0) (.bool false) (.int .i64 0) (.int .i64 0) (.int .i64 0) (.int .i64 m1.f1) (.string m2.f2) (.string ⟨#[]⟩) (.slice none 0 0)) (by show ga ≠ ge; omega) _) (blk_put ((set12_o (w := w20) (by show ge ≠ ga; omega) (.int .i64 9) (.int .i64 0) (.int .i64 0) (.int .i64 0) (.bool false) (.int .i64 0) (.int .i64 0) (.int .i64 0) (.int .i64 m1.f1) (.string m2.f2) (.string ⟨#[]⟩) (.slice none 0 0)).trans HS0.out.E) 0 _ rfl) (post_some (a := { zA 9 with caller := m1.f1, name := m2.f2 }) (A := none) (c := 0) (if_pos (show m1.f0 = 0 ∧ inr m1.f1 = true ∧ m2.f0 = 1 from ⟨HP1.out.1, HP1.out.2, HP2.out⟩)) (Nat.le_refl _) (Kd.F_nil _ _ _) ?_)
            exact (set12_below HS0.out.R.hb g0 _ _ _ _ _ _ _ _ _ _ _ _).setCell (by show w.heap.size ≤ ge; omega) _
          | cons y_ t_ =>
            have r0 : w20.cell? ⟨gr, 0, none⟩ = some (.slice Ar (t_.length + 1) cr) := (blk_cell h1 0).trans rfl
            have p0 : ((t_.length : Int) + 1 == 0) = false := by rw [beq_eq_false_iff_ne]; omega
            have p1 : (((t_.length + 1 : Nat) : Int) == 0) = false := by rw [beq_eq_false_iff_ne]; omega
            clear h1 h2 h3
            go_wp2_with (go_at_call 86; go_loud ((with_reducible refine (must_bad _).mono ?_); rintro e w'' ⟨rfl, rfl⟩))
            refine door_caught ga ge _ _ 4 0 (.int .i64 9) (.int .i64 0) (.int .i64 0) (.int .i64 0) (.bool false) (.int .i64 0) (.int .i64 0) (.int .i64 0) (.int .i64 m1.f1) (.string m2.f2) (.string ⟨#[]⟩) (.slice none 0 0) _ rfl rfl HS0.out.A HS0.out.E (post_none (rfl) ?_)
            exact (set12_below HS0.out.R.hb g0 _ _ _ _ _ _ _ _ _ _ _ _).setCell (by show w.heap.size ≤ ge; omega) _
        · have HP2 := Aside0.mk hx
          have HBQ := Aside0.mk (show (∀ y u, (m2 :: t2) = y :: u → y.f0 ≠ 1) from fun y u e => by cases e; exact hx)
          clear hx
          go_wp2_with (first | (go_at_call 84; go_loud ((with_reducible refine (next_bad (m2 :: t2) 1 gr w _ HE1.out.R HBQ.out).mono ?_); rintro e wb ⟨rfl, hb, hk⟩; have HLO := Aside0.mk (HE1.out.lost g3 g2 hk); have HBB := Aside0.mk hb; clear hb hk)) | (go_at_call 82; go_loud ((with_reducible refine (short_ok m1 _ gr w _ HE0.out.R HP1.out.1 HP1.out.2).mono ?_); rintro e w11 ⟨rfl, hr, hk⟩; have HE1 := Aside0.mk (HE0.out.keep g3 g2 hr hk); clear hr hk)))
          refine door_caught ga ge _ _ 4 0 _ _ _ _ _ _ _ _ _ _ _ _ _ rfl rfl (HLO.out).1 (HLO.out).2 (post_none (by rcases t2 with _ | ⟨z0, _⟩ <;> first | rfl | exact if_neg (fun (h : m1.f0 = 0 ∧ inr m1.f1 = true ∧ m2.f0 = 1) => HP2.out h.2.2)) ?_)
          exact (set12_below HBB.out g0 _ _ _ _ _ _ _ _ _ _ _ _).setCell (by show w.heap.size ≤ ge; omega) _
    · have HP1 := Aside0.mk hx
      have HBQ := Aside0.mk (show (∀ y u, (m1 :: t1) = y :: u → y.f0 ≠ 0 ∨ inr y.f1 = false) from fun y u e => by cases e; exact not_short hx)
      clear hx
      go_wp2_with (first | (go_at_call 82; go_loud ((with_reducible refine (short_bad (m1 :: t1) gr w _ HE0.out.R HBQ.out).mono ?_); rintro e wb ⟨rfl, hb, hk⟩; have HLO := Aside0.mk (HE0.out.lost g3 g2 hk); have HBB := Aside0.mk hb; clear hb hk)))
      refine door_caught ga ge _ _ 4 0 _ _ _ _ _ _ _ _ _ _ _ _ _ rfl rfl (HLO.out).1 (HLO.out).2 (post_none (by rcases t1 with _ | ⟨z1, _ | ⟨z0, _⟩⟩ <;> first | rfl | exact if_neg (fun (h : m1.f0 = 0 ∧ inr m1.f1 = true ∧ z1.f0 = 1) => HP1.out ⟨h.1, h.2.1⟩)) ?_)
      exact (set12_below HBB.out g0 _ _ _ _ _ _ _ _ _ _ _ _).setCell (by show w.heap.size ≤ ge; omega) _
end Go.Proofs.Ytjicfkmpgogppaa.Or
