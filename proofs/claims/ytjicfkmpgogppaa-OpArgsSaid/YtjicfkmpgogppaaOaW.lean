/-
  OpArgs, walked.
-/
import Derived.Test.YtjicfkmpgogppaaH4
import Derived.Test.YtjicfkmpgogppaaH8
import Derived.Test.YtjicfkmpgogppaaSaW
import Derived.Test.YtjicfkmpgogppaaAkW
import Derived.Test.YtjicfkmpgogppaaH3
import Derived.Test.YtjicfkmpgogppaaWkH
namespace Go.Proofs.Ytjicfkmpgogppaa.Oa
set_option linter.unusedVariables false
set_option linter.unusedSimpArgs false
open Go Go.RowKit Go.Proofs.Ytjicfkmpgogppaa.Plain Go.Proofs.Ytjicfkmpgogppaa.Vs Go.Proofs.Ytjicfkmpgogppaa.Sh Go.Proofs.Ytjicfkmpgogppaa.PA Go.Proofs.YtjicfkmpgogppaaW.PrintWords Go.Proofs.YtjicfkmpgogppaaW.PrintLast Go.Proofs.YtjicfkmpgogppaaW.PrintMore
open Go.Proofs.Ytjicfkmpgogppaa.Gv (A_ E0)
open Go.Proofs.Ytjicfkmpgogppaa.Vw (B_)
open Go.Proofs.Ytjicfkmpgogppaa.Or (AskT)
open Go.Proofs.Ytjicfkmpgogppaa.Ap (kA kB toB argsV resA errA NodesOk)
abbrev ArV (o run node tri : Int) (ok : Bool) (per rol til cal : Int) (nm fn : ByteArray) (l : List A_) (al : List V) : Prop := ∀ (A : Option Addr) (c : Nat) (w : World), Kd.C kA w A l.length l → l.length ≤ c → Calls Try.prog 42 #[.agg #[.int .i64 o, .int .i64 run, .int .i64 node, .int .i64 tri, .bool ok, .int .i64 per, .int .i64 rol, .int .i64 til, .int .i64 cal, .string nm, .string fn, .slice A l.length c]] w fun e w' => ∃ A1 c1, e = .returned (.slice A1 al.length c1) ∧ al.length ≤ c1 ∧ Kd.F k54 w' (fun k => w.heap.size ≤ k) A1 al.length al ∧ Bl w w'
abbrev ArW (o run node tri : Int) (ok : Bool) (per rol til cal : Int) (nm fn : ByteArray) (l : List B_) (al : List V) : Prop := ∀ (A : Option Addr) (c : Nat) (w : World), Kd.C kB w A l.length l → Calls Try.prog 43 #[.agg #[.int .i64 o, .int .i64 run, .int .i64 node, .int .i64 tri, .bool ok, .int .i64 per, .int .i64 rol, .int .i64 til, .int .i64 cal, .string nm, .string fn, .slice A l.length c]] w fun e w' => ∃ A1 c1, e = .returned (.slice A1 al.length c1) ∧ al.length ≤ c1 ∧ Kd.F k57 w' (fun k => w.heap.size ≤ k) A1 al.length (toWs al) ∧ Bl w w'
abbrev RdV (q : Int) (vl : List V) (o run node tri : Int) (ok : Bool) (per rol til cal : Int) (nm fn : ByteArray) (l : List A_) (er : Int) : Prop := ∀ (A : Option Addr) (c : Nat) (w : World), Kd.C k54 w A vl.length vl → vl.length ≤ c → Calls Try.prog 44 #[.int .i64 q, .slice A vl.length c] w fun e w' => ∃ A1 c1, e = .returned (.tuple #[.agg #[.int .i64 o, .int .i64 run, .int .i64 node, .int .i64 tri, .bool ok, .int .i64 per, .int .i64 rol, .int .i64 til, .int .i64 cal, .string nm, .string fn, .slice A1 l.length c1], .int .i64 er]) ∧ l.length ≤ c1 ∧ Kd.F kA w' (fun k => w.heap.size ≤ k) A1 l.length l ∧ Bl w w'
abbrev RdW (q : Int) (vl : List V) (o run node tri : Int) (ok : Bool) (per rol til cal : Int) (nm fn : ByteArray) (l : List B_) (er : Int) : Prop := ∀ (A : Option Addr) (c : Nat) (w : World), Kd.C k57 w A vl.length (toWs vl) → vl.length ≤ c → Calls Try.prog 45 #[.int .i64 q, .slice A vl.length c] w fun e w' => ∃ A1 c1, e = .returned (.tuple #[.agg #[.int .i64 o, .int .i64 run, .int .i64 node, .int .i64 tri, .bool ok, .int .i64 per, .int .i64 rol, .int .i64 til, .int .i64 cal, .string nm, .string fn, .slice A1 l.length c1], .int .i64 er]) ∧ Kd.F kB w' (fun k => w.heap.size ≤ k) A1 l.length l ∧ Bl w w'
abbrev SaP (o run node tri : Int) (ok : Bool) (per rol til cal : Int) (nm fn : ByteArray) (la : List A_) (lb : List B_) : Prop := ∀ (A1 : Option Addr) (c1 : Nat) (A2 : Option Addr) (c2 : Nat) (w : World), Kd.C kA w A1 la.length la → Kd.C kB w A2 lb.length lb → la.length ≤ c1 → Calls Try.prog 46 #[.agg #[.int .i64 o, .int .i64 run, .int .i64 node, .int .i64 tri, .bool ok, .int .i64 per, .int .i64 rol, .int .i64 til, .int .i64 cal, .string nm, .string fn, .slice A1 la.length c1], .agg #[.int .i64 o, .int .i64 run, .int .i64 node, .int .i64 tri, .bool ok, .int .i64 per, .int .i64 rol, .int .i64 til, .int .i64 cal, .string nm, .string fn, .slice A2 lb.length c2]] w fun e w' => e = .returned (.bool true) ∧ Bl w w'
theorem arV (a : AskT) (h : NodesOk a) : ArV a.op a.run a.node a.tries a.okf a.person a.role a.till a.caller a.name a.fname a.nodes (argsV a) := fun A c w hC hc => by
  obtain ⟨K, hK⟩ := Ap.value_ok a h
  exact Ap.args_V a A c w hC hc K hK
theorem arW (a : AskT) (h : NodesOk a) : ArW a.op a.run a.node a.tries a.okf a.person a.role a.till a.caller a.name a.fname (a.nodes.map toB) (argsV a) := fun A c w hC => (Ap.args_W a A c w hC h.1 h.2).mono fun e w' hp => by
  obtain ⟨v, rfl, ⟨A1, c1, rfl, l1, hF⟩, hb⟩ := hp
  rw [Sm.toWs_length] at l1 hF ⊢
  exact ⟨A1, c1, rfl, l1, hF, hb⟩
theorem rdV (o : Int) (l : List V) (hs : ∀ x ∈ l, Small x) : RdV o l (resA o l).op (resA o l).run (resA o l).node (resA o l).tries (resA o l).okf (resA o l).person (resA o l).role (resA o l).till (resA o l).caller (resA o l).name (resA o l).fname (resA o l).nodes (errA o l) := fun A c w hC hc => Ap.read_V o l A c w hC hc hs
theorem rdW (o : Int) (l : List V) (hs : ∀ x ∈ l, Small x) : RdW o l (resA o l).op (resA o l).run (resA o l).node (resA o l).tries (resA o l).okf (resA o l).person (resA o l).role (resA o l).till (resA o l).caller (resA o l).name (resA o l).fname ((resA o l).nodes.map toB) (errA o l) := fun A c w hC hc => by
  have hp := Ap.read_W o l A c w (by rw [Sm.toWs_length]; exact hC) (by rw [Sm.toWs_length]; exact hc) hs
  rw [Sm.toWs_length] at hp
  exact hp.mono fun e w' ⟨A1, c1, h1, h2, h3, h4⟩ => ⟨A1, c1, h1, h3, h4⟩
theorem saP (a : AskT) (h : NodesOk a) : SaP a.op a.run a.node a.tries a.okf a.person a.role a.till a.caller a.name a.fname a.nodes (a.nodes.map toB) := fun A1 c1 A2 c2 w hA hB hc => by
  obtain ⟨K, hK⟩ := Ap.value_ok a h
  exact Sa.same_ask a.op a.run a.node a.tries a.okf a.person a.role a.till a.caller a.name a.fname A1 A2 c1 c2 a.nodes (a.nodes.map toB) w hA hB hc (by rw [List.length_map]; have := h.1; omega) (fun x hx => by obtain ⟨y, hy, rfl⟩ := List.mem_map.1 hx; have := h.2 y hy; show y.f1.length ≤ _; omega) K hK (Ap.flow_val a.fname a.nodes)
theorem sets_cell {g : Nat} {a : Addr} (hk : a.block ≠ g) (vs : List Value) (i : Nat) (w : World) : (sets w g i vs).cell? a = w.cell? a := by
  have h := sets_o hk vs i w
  unfold World.cell?
  rw [h]
theorem toB_A (l : List Fw.T) : ((l.take 20).map Fw.toA).map toB = (l.take 20).map Fw.toB := by
  rw [List.map_map]
  exact List.map_congr_left fun x _ => rfl
theorem nodes_ok (l : List Fw.T) (o run node tri : Int) (ok : Bool) (per rol til cal : Int) (nm fn : ByteArray) : NodesOk ⟨o, run, node, tri, ok, per, rol, til, cal, nm, fn, (l.take 20).map Fw.toA⟩ := by
  refine ⟨by simp only [List.length_map, List.length_take]; omega, fun x hx => ?_⟩
  obtain ⟨y, _, rfl⟩ := List.mem_map.1 hx
  show (y.f1.take 20).length ≤ 1000
  rw [List.length_take]; omega
set_option maxHeartbeats 8000000 in
set_option maxRecDepth 100000 in
theorem args_walk (o run node tri : Int) (ok : Bool) (per rol til cal : Int) (nm fn : ByteArray) (A : Option Addr) (c : Nat) (l : List Fw.T) (A' : Option Addr) (c' : Nat) (li : List (S147)) (w : World) (hC : Kd.C k121 w A l.length l) (hc : l.length ≤ c) (hC' : Kd.C k147 w A' li.length li) (hc' : li.length ≤ c') :
    Calls Try.prog 12 #[.agg #[.int .i64 o, .int .i64 run, .int .i64 node, .int .i64 tri, .bool ok, .int .i64 per, .int .i64 rol, .int .i64 til, .int .i64 cal, .string nm, .string fn, .slice A l.length c], .slice A' li.length c'] w fun e w' => e = .returned (.bool true) ∧ Bl w w' := by
  have hok := nodes_ok l o run node tri ok per rol til cal nm fn
  have HAK := Aside0.mk (fun w' (h : Kd.C k121 w' A l.length l) => Ak.asks_walk o run node tri ok per rol til cal nm fn A c l w' h hc)
  have HBU := Aside0.mk (fun w' (h : Kd.C k147 w' A' li.length li) => precinctlaw18_build.calls A' c' li _ _ _ _ _ _ _ _ w' h hc' rfl)
  have HWK := Aside0.mk (fun w' => (show Calls Try.prog 31 #[] w' (fun e w'' => e = .returned (.bool true) ∧ Bl w' w'') from Wh.wakes1 w'))
  have hs : ∀ x ∈ (Bu.built li).f3, Small x := ((Small_eq _).1 (Bs.built_small li)).2
  have HAV := Aside0.mk (arV _ hok)
  have HAW := Aside0.mk (arW _ hok)
  have has := Ap.args_small _ hok
  have HR1 := Aside0.mk (rdV o _ hs)
  have HR2 := Aside0.mk (rdW o _ hs)
  have HS1 := Aside0.mk (saP _ (Ap.res_ok o _ hs))
  have HR3 := Aside0.mk (rdV o _ has)
  have HR4 := Aside0.mk (rdW o _ has)
  have HS2 := Aside0.mk (saP _ (Ap.res_ok o _ has))
  rw [show (Bu.toW (Bu.built li)).f3 = toWs (Bu.built li).f3 from toW_3 _] at HBU
  have hx : ∃ z0 z1 z2 z3 z4 z5, (Bu.built li).f0 = z0 ∧ (Bu.built li).f1 = z1 ∧ (Bu.built li).f2 = z2 ∧ (Bu.toW (Bu.built li)).f0 = z3 ∧ (Bu.toW (Bu.built li)).f1 = z4 ∧ (Bu.toW (Bu.built li)).f2 = z5 := ⟨_, _, _, _, _, _, rfl, rfl, rfl, rfl, rfl, rfl⟩
  obtain ⟨z0, z1, z2, z3, z4, z5, e0, e1, e2, e3, e4, e5⟩ := hx
  rw [e0, e1, e2, e3, e4, e5] at HBU
  clear e0 e1 e2 e3 e4 e5
  generalize hal : argsV _ = al at HAV HAW HR3 HR4 HS2
  generalize (Bu.built li).f3 = vl at HBU HR1 HR2 HS1
  generalize errA o vl = er at HR1 HR2
  generalize errA o al = et at HR3 HR4
  generalize resA o vl = r at HR1 HR2 HS1
  obtain ⟨r0, r1, r2, r3, r4, r5, r6, r7, r8, r9, r10, r11⟩ := r
  generalize resA o al = s at HR3 HR4 HS2
  obtain ⟨s0, s1, s2, s3, s4, s5, s6, s7, s8, s9, s10, s11⟩ := s
  simp only at HAV HAW HR1 HR2 HS1 HR3 HR4 HS2
  rw [toB_A] at HAW
  generalize (l.take 20).map Fw.toA = na at HAK HAV
  generalize (l.take 20).map Fw.toB = nb at HAK HAW
  generalize r11.map toB = rb at HR2 HS1
  generalize s11.map toB = sb at HR4 HS2
  have HC := Aside0.mk hC
  have HC' := Aside0.mk hC'
  clear hal hs has hok hC hc hC' hc'
  have hu1 := Try.underlying104
  have hu2 := Try.underlying107
  have hu3 := Try.underlying109
  have hu4 := Try.underlying54
  have hu5 := Try.underlying57

  have H := (St.start w).alloc #[.int .i64 o, .int .i64 run, .int .i64 node, .int .i64 tri, .bool ok, .int .i64 per, .int .i64 rol, .int .i64 til, .int .i64 cal, .string nm, .string fn, .slice A l.length c] 104
  go_enter Try.func12, Try.ntmps12
  go_upto_region 1 with fail
  generalize w.alloc (.cells #[.int .i64 o, .int .i64 run, .int .i64 node, .int .i64 tri, .bool ok, .int .i64 per, .int .i64 rol, .int .i64 til, .int .i64 cal, .string nm, .string fn, .slice A l.length c] 104) = w1 at H ⊢
  obtain ⟨g1, hg1⟩ : ∃ g, w.heap.size = g := ⟨_, rfl⟩
  rw [hg1] at H ⊢
  clear hg1
  have cg1 := H.c 0 rfl
  have HV := Aside0.mk (HAK.out w1 (Kd.C_below HC.out H.hb))
  go_upto_region 2 with (go_at_call 41; go_loud ((with_reducible refine HV.out.mono ?_); rintro e wq ⟨A1, c1, A2, c2, rfl, l1, l2, hFa, hFb, hq⟩; have HL1 := Aside0.mk l1; have HFa := Aside0.mk (Kd.F_mono (ok' := fun k => k < wq.heap.size) (Kd.F_bound hFa) (fun k hk => hk.2)); have HFb := Aside0.mk (Kd.F_mono (ok' := fun k => k < wq.heap.size) (Kd.F_bound hFb) (fun k hk => hk.2)); have H := H.go hq; clear hFa hFb l1 l2 hq))
  clear cg1
  clear HV HAK HC
  replace H := (H.allocN #[.int .i64 o, .int .i64 run, .int .i64 node, .int .i64 tri, .bool ok, .int .i64 per, .int .i64 rol, .int .i64 til, .int .i64 cal, .string nm, .string fn, .slice A1 na.length c1] 107 wq.heap.size rfl).allocN #[.int .i64 o, .int .i64 run, .int .i64 node, .int .i64 tri, .bool ok, .int .i64 per, .int .i64 rol, .int .i64 til, .int .i64 cal, .string nm, .string fn, .slice A2 nb.length c2] 109 (wq.heap.size + 1) (by simp only [new_size])
  replace HFa := Aside0.mk (Kd.F_alloc (Kd.F_alloc HFa.out (.cells #[.int .i64 o, .int .i64 run, .int .i64 node, .int .i64 tri, .bool ok, .int .i64 per, .int .i64 rol, .int .i64 til, .int .i64 cal, .string nm, .string fn, .slice A1 na.length c1] 107)) (.cells #[.int .i64 o, .int .i64 run, .int .i64 node, .int .i64 tri, .bool ok, .int .i64 per, .int .i64 rol, .int .i64 til, .int .i64 cal, .string nm, .string fn, .slice A2 nb.length c2] 109))
  replace HFb := Aside0.mk (Kd.F_alloc (Kd.F_alloc HFb.out (.cells #[.int .i64 o, .int .i64 run, .int .i64 node, .int .i64 tri, .bool ok, .int .i64 per, .int .i64 rol, .int .i64 til, .int .i64 cal, .string nm, .string fn, .slice A1 na.length c1] 107)) (.cells #[.int .i64 o, .int .i64 run, .int .i64 node, .int .i64 tri, .bool ok, .int .i64 per, .int .i64 rol, .int .i64 til, .int .i64 cal, .string nm, .string fn, .slice A2 nb.length c2] 109))
  generalize (wq.alloc (.cells #[.int .i64 o, .int .i64 run, .int .i64 node, .int .i64 tri, .bool ok, .int .i64 per, .int .i64 rol, .int .i64 til, .int .i64 cal, .string nm, .string fn, .slice A1 na.length c1] 107)).alloc (.cells #[.int .i64 o, .int .i64 run, .int .i64 node, .int .i64 tri, .bool ok, .int .i64 per, .int .i64 rol, .int .i64 til, .int .i64 cal, .string nm, .string fn, .slice A2 nb.length c2] 109) = w2 at H HFa HFb ⊢
  obtain ⟨g2, hg2⟩ : ∃ g, wq.heap.size = g := ⟨_, rfl⟩
  obtain ⟨g3, hg3⟩ : ∃ g, g2 + 1 = g := ⟨_, rfl⟩
  rw [hg2, hg3] at H ⊢
  rw [hg2] at HFa HFb
  clear hg2 hg3
  have HV := Aside0.mk (HBU.out w2 (Kd.C_below HC'.out H.hb))
  go_upto_region 3 with (go_at_call 28; go_loud ((with_reducible refine HV.out.mono ?_); rintro e wq ⟨v3, v7, rfl, hRa, hRb, hq⟩; obtain ⟨A3, c3, rfl, l3, hFc⟩ := Kd.R_V (base' := 0) hRa; obtain ⟨A4, c4, e4, l4, hFd⟩ := Kd.R_V (base' := 0) hRb; rw [Sm.toWs_length] at e4 l4 hFd; subst e4; have HL3 := Aside0.mk l3; have HL4 := Aside0.mk l4; have HFc := Aside0.mk (Kd.F_mono (ok' := fun k => k < wq.heap.size) (Kd.F_bound hFc) (fun k hk => hk.2)); have HFd := Aside0.mk (Kd.F_mono (ok' := fun k => k < wq.heap.size) (Kd.F_bound hFd) (fun k hk => hk.2)); have H := H.go hq; have HFa := Aside0.mk (Kd.F_below HFa.out hq); have HFb := Aside0.mk (Kd.F_below HFb.out hq); clear hq; clear hRa hRb l3 l4 hFc hFd))
  clear HV HBU HC'
  replace H := (H.allocN #[.int .i64 z0, .int .i64 z1, .string z2, .slice A3 vl.length c3] 54 wq.heap.size rfl).allocN #[.int .i64 z3, .int .i64 z4, .string z5, .slice A4 vl.length c4] 57 (wq.heap.size + 1) (by simp only [new_size])
  replace HFa := Aside0.mk (Kd.F_alloc (Kd.F_alloc HFa.out (.cells #[.int .i64 z0, .int .i64 z1, .string z2, .slice A3 vl.length c3] 54)) (.cells #[.int .i64 z3, .int .i64 z4, .string z5, .slice A4 vl.length c4] 57))
  replace HFb := Aside0.mk (Kd.F_alloc (Kd.F_alloc HFb.out (.cells #[.int .i64 z0, .int .i64 z1, .string z2, .slice A3 vl.length c3] 54)) (.cells #[.int .i64 z3, .int .i64 z4, .string z5, .slice A4 vl.length c4] 57))
  replace HFc := Aside0.mk (Kd.F_alloc (Kd.F_alloc HFc.out (.cells #[.int .i64 z0, .int .i64 z1, .string z2, .slice A3 vl.length c3] 54)) (.cells #[.int .i64 z3, .int .i64 z4, .string z5, .slice A4 vl.length c4] 57))
  replace HFd := Aside0.mk (Kd.F_alloc (Kd.F_alloc HFd.out (.cells #[.int .i64 z0, .int .i64 z1, .string z2, .slice A3 vl.length c3] 54)) (.cells #[.int .i64 z3, .int .i64 z4, .string z5, .slice A4 vl.length c4] 57))
  generalize (wq.alloc (.cells #[.int .i64 z0, .int .i64 z1, .string z2, .slice A3 vl.length c3] 54)).alloc (.cells #[.int .i64 z3, .int .i64 z4, .string z5, .slice A4 vl.length c4] 57) = w3 at H HFa HFb HFc HFd ⊢
  obtain ⟨g4, hg4⟩ : ∃ g, wq.heap.size = g := ⟨_, rfl⟩
  obtain ⟨g5, hg5⟩ : ∃ g, g4 + 1 = g := ⟨_, rfl⟩
  rw [hg4, hg5] at H ⊢
  rw [hg4] at HFc HFd
  clear hg4 hg5
  have H := H.drew
  replace HFa := Aside0.mk (Kd.F_drew HFa.out)
  replace HFb := Aside0.mk (Kd.F_drew HFb.out)
  replace HFc := Aside0.mk (Kd.F_drew HFc.out)
  replace HFd := Aside0.mk (Kd.F_drew HFd.out)
  have cg2 := H.c 3 rfl
  have cg3 := H.c 2 rfl
  go_region_held3 (fun w' => (∀ i, w'.cell? ⟨g2, i, none⟩ = (#[.int .i64 o, .int .i64 run, .int .i64 node, .int .i64 tri, .bool ok, .int .i64 per, .int .i64 rol, .int .i64 til, .int .i64 cal, .string nm, .string fn, .slice A1 na.length c1] : Array Value)[i]?) ∧ (∀ i, w'.cell? ⟨g3, i, none⟩ = (#[.int .i64 o, .int .i64 run, .int .i64 node, .int .i64 tri, .bool ok, .int .i64 per, .int .i64 rol, .int .i64 til, .int .i64 cal, .string nm, .string fn, .slice A2 nb.length c2] : Array Value)[i]?)) (exact ⟨cg2, cg3⟩) (first | (go_at_call 31; (with_reducible refine (HWK.out _).mono ?_); rintro e wq ⟨rfl, hq⟩; have H := H.go hq; have cg2 := H.c 3 rfl; have cg3 := H.c 2 rfl; have HFa := Aside0.mk (Kd.F_below HFa.out hq); have HFb := Aside0.mk (Kd.F_below HFb.out hq); have HFc := Aside0.mk (Kd.F_below HFc.out hq); have HFd := Aside0.mk (Kd.F_below HFd.out hq); clear hq) | (go_at_call 42; (with_reducible refine (HAV.out A1 c1 _ (Kd.F_now HFa.out) HL1.out).mono ?_); rintro e wq ⟨A7, c7, rfl, l7, hF7, hq⟩; have HF7 := Aside0.mk hF7; have HL7 := Aside0.mk l7; clear hF7 l7; have H := H.go hq; have cg2 := H.c 3 rfl; have cg3 := H.c 2 rfl; have HFa := Aside0.mk (Kd.F_below HFa.out hq); have HFb := Aside0.mk (Kd.F_below HFb.out hq); have HFc := Aside0.mk (Kd.F_below HFc.out hq); have HFd := Aside0.mk (Kd.F_below HFd.out hq); clear hq) | (go_at_call 43; (with_reducible refine (HAW.out A2 c2 _ (Kd.F_now HFb.out)).mono ?_); rintro e wq ⟨A8, c8, rfl, l8, hF8, hq⟩; have HF8 := Aside0.mk hF8; clear hF8 l8; have H := H.go hq; have cg2 := H.c 3 rfl; have cg3 := H.c 2 rfl; have HFa := Aside0.mk (Kd.F_below HFa.out hq); have HFb := Aside0.mk (Kd.F_below HFb.out hq); have HFc := Aside0.mk (Kd.F_below HFc.out hq); have HFd := Aside0.mk (Kd.F_below HFd.out hq); have HF7 := Aside0.mk (Kd.F_below HF7.out hq); clear hq) | (go_at_call 38; (with_reducible refine (Sm.list_walk al A7 c7 A8 c8 _ (Kd.F_now HF7.out) (Kd.F_now HF8.out)).mono ?_); rintro e wq ⟨rfl, hq⟩; have H := H.go hq; have cg2 := H.c 3 rfl; have cg3 := H.c 2 rfl; have HFa := Aside0.mk (Kd.F_below HFa.out hq); have HFb := Aside0.mk (Kd.F_below HFb.out hq); have HFc := Aside0.mk (Kd.F_below HFc.out hq); have HFd := Aside0.mk (Kd.F_below HFd.out hq); clear hq))
  clear cg2 cg3
  clear HF7 HF8 HL7
  have cg1 := H.c 4 rfl
  have cg4 := H.c 1 rfl
  go_upto_region 6 with (go_at_call 44; go_loud ((with_reducible refine (HR1.out A3 c3 _ (Kd.F_now HFc.out) HL3.out).mono ?_); rintro e wq ⟨A5, c5, rfl, l5, hF5, hq⟩; have HF5 := Aside0.mk hF5; have HL5 := Aside0.mk l5; clear hF5 l5; have H := H.go hq; have HFa := Aside0.mk (Kd.F_below HFa.out hq); have HFb := Aside0.mk (Kd.F_below HFb.out hq); have HFc := Aside0.mk (Kd.F_below HFc.out hq); have HFd := Aside0.mk (Kd.F_below HFd.out hq); clear hq))
  clear cg1 cg4
  clear HFc
  replace H := H.allocN #[.int .i64 r0, .int .i64 r1, .int .i64 r2, .int .i64 r3, .bool r4, .int .i64 r5, .int .i64 r6, .int .i64 r7, .int .i64 r8, .string r9, .string r10, .slice A5 r11.length c5] 107 wq.heap.size rfl
  replace HFa := Aside0.mk (Kd.F_alloc HFa.out (.cells #[.int .i64 r0, .int .i64 r1, .int .i64 r2, .int .i64 r3, .bool r4, .int .i64 r5, .int .i64 r6, .int .i64 r7, .int .i64 r8, .string r9, .string r10, .slice A5 r11.length c5] 107))
  replace HFb := Aside0.mk (Kd.F_alloc HFb.out (.cells #[.int .i64 r0, .int .i64 r1, .int .i64 r2, .int .i64 r3, .bool r4, .int .i64 r5, .int .i64 r6, .int .i64 r7, .int .i64 r8, .string r9, .string r10, .slice A5 r11.length c5] 107))
  replace HFd := Aside0.mk (Kd.F_alloc HFd.out (.cells #[.int .i64 r0, .int .i64 r1, .int .i64 r2, .int .i64 r3, .bool r4, .int .i64 r5, .int .i64 r6, .int .i64 r7, .int .i64 r8, .string r9, .string r10, .slice A5 r11.length c5] 107))
  replace HF5 := Aside0.mk (Kd.F_alloc HF5.out (.cells #[.int .i64 r0, .int .i64 r1, .int .i64 r2, .int .i64 r3, .bool r4, .int .i64 r5, .int .i64 r6, .int .i64 r7, .int .i64 r8, .string r9, .string r10, .slice A5 r11.length c5] 107))
  generalize wq.alloc (.cells #[.int .i64 r0, .int .i64 r1, .int .i64 r2, .int .i64 r3, .bool r4, .int .i64 r5, .int .i64 r6, .int .i64 r7, .int .i64 r8, .string r9, .string r10, .slice A5 r11.length c5] 107) = w5 at H HFa HFb HFd HF5 ⊢
  obtain ⟨g6, hg6⟩ : ∃ g, wq.heap.size = g := ⟨_, rfl⟩
  rw [hg6] at H ⊢
  clear hg6
  have cg1 := H.c 5 rfl
  have cg5 := H.c 1 rfl
  go_upto_region 7 with (go_at_call 45; go_loud ((with_reducible refine (HR2.out A4 c4 _ (Kd.F_now HFd.out) HL4.out).mono ?_); rintro e wq ⟨A6, c6, rfl, hF6, hq⟩; have HF6 := Aside0.mk hF6; clear hF6; have H := H.go hq; have HFa := Aside0.mk (Kd.F_below HFa.out hq); have HFb := Aside0.mk (Kd.F_below HFb.out hq); have HFd := Aside0.mk (Kd.F_below HFd.out hq); have HF5 := Aside0.mk (Kd.F_below HF5.out hq); clear hq))
  clear cg1 cg5
  clear HFd
  replace H := H.allocN #[.int .i64 r0, .int .i64 r1, .int .i64 r2, .int .i64 r3, .bool r4, .int .i64 r5, .int .i64 r6, .int .i64 r7, .int .i64 r8, .string r9, .string r10, .slice A6 rb.length c6] 109 wq.heap.size rfl
  replace HFa := Aside0.mk (Kd.F_alloc HFa.out (.cells #[.int .i64 r0, .int .i64 r1, .int .i64 r2, .int .i64 r3, .bool r4, .int .i64 r5, .int .i64 r6, .int .i64 r7, .int .i64 r8, .string r9, .string r10, .slice A6 rb.length c6] 109))
  replace HFb := Aside0.mk (Kd.F_alloc HFb.out (.cells #[.int .i64 r0, .int .i64 r1, .int .i64 r2, .int .i64 r3, .bool r4, .int .i64 r5, .int .i64 r6, .int .i64 r7, .int .i64 r8, .string r9, .string r10, .slice A6 rb.length c6] 109))
  replace HF5 := Aside0.mk (Kd.F_alloc HF5.out (.cells #[.int .i64 r0, .int .i64 r1, .int .i64 r2, .int .i64 r3, .bool r4, .int .i64 r5, .int .i64 r6, .int .i64 r7, .int .i64 r8, .string r9, .string r10, .slice A6 rb.length c6] 109))
  replace HF6 := Aside0.mk (Kd.F_alloc HF6.out (.cells #[.int .i64 r0, .int .i64 r1, .int .i64 r2, .int .i64 r3, .bool r4, .int .i64 r5, .int .i64 r6, .int .i64 r7, .int .i64 r8, .string r9, .string r10, .slice A6 rb.length c6] 109))
  generalize wq.alloc (.cells #[.int .i64 r0, .int .i64 r1, .int .i64 r2, .int .i64 r3, .bool r4, .int .i64 r5, .int .i64 r6, .int .i64 r7, .int .i64 r8, .string r9, .string r10, .slice A6 rb.length c6] 109) = w6 at H HFa HFb HF5 HF6 ⊢
  obtain ⟨g7, hg7⟩ : ∃ g, wq.heap.size = g := ⟨_, rfl⟩
  rw [hg7] at H ⊢
  clear hg7
  have cg6 := H.c 1 rfl
  have cg7 := H.c 0 rfl
  have ee : (er != er) = false := bne_self_eq_false _
  go_upto_region 9 with (go_at_call 46; go_loud ((with_reducible refine (HS1.out A5 c5 A6 c6 _ (Kd.F_now HF5.out) (Kd.F_now HF6.out) HL5.out).mono ?_); rintro e wq ⟨rfl, hq⟩; have H := H.go hq; have HFa := Aside0.mk (Kd.F_below HFa.out hq); have HFb := Aside0.mk (Kd.F_below HFb.out hq); have HF5 := Aside0.mk (Kd.F_below HF5.out hq); have HF6 := Aside0.mk (Kd.F_below HF6.out hq); clear hq))
  clear cg6 cg7
  clear HF5 HF6 HL5 ee
  have H := H.drew
  replace HFa := Aside0.mk (Kd.F_drew HFa.out)
  replace HFb := Aside0.mk (Kd.F_drew HFb.out)
  have cg1 := H.c 6 rfl
  have cg2 := H.c 5 rfl
  have cg6 := H.c 1 rfl
  have qg6 := H.q 1 rfl
  have ng1 : g1 ≠ g6 := Nat.ne_of_lt (H.gt 1 6 (by decide) rfl rfl)
  have mg1 := ng1.symm
  have ng2 : g2 ≠ g6 := Nat.ne_of_lt (H.gt 1 5 (by decide) rfl rfl)
  have mg2 := ng2.symm
  go_region_held3 (fun w' => (∀ i, w'.cell? ⟨g1, i, none⟩ = (#[.int .i64 o, .int .i64 run, .int .i64 node, .int .i64 tri, .bool ok, .int .i64 per, .int .i64 rol, .int .i64 til, .int .i64 cal, .string nm, .string fn, .slice A l.length c] : Array Value)[i]?) ∧ (∀ i, w'.cell? ⟨g2, i, none⟩ = (#[.int .i64 o, .int .i64 run, .int .i64 node, .int .i64 tri, .bool ok, .int .i64 per, .int .i64 rol, .int .i64 til, .int .i64 cal, .string nm, .string fn, .slice A1 na.length c1] : Array Value)[i]?)) ((first | (with_reducible exact ⟨cg1, cg2⟩) | exact ⟨fun i => (sets_cell (g := g6) ng1 [.int .i64 s0, .int .i64 s1, .int .i64 s2, .int .i64 s3, .bool s4, .int .i64 s5, .int .i64 s6, .int .i64 s7, .int .i64 s8, .string s9, .string s10, .slice A9 s11.length c9] 0 _).trans (cg1 i), fun i => (sets_cell (g := g6) ng2 [.int .i64 s0, .int .i64 s1, .int .i64 s2, .int .i64 s3, .bool s4, .int .i64 s5, .int .i64 s6, .int .i64 s7, .int .i64 s8, .string s9, .string s10, .slice A9 s11.length c9] 0 _).trans (cg2 i)⟩)) (first | (go_at_call 42; (with_reducible refine (HAV.out A1 c1 _ (Kd.F_now HFa.out) HL1.out).mono ?_); rintro e wq ⟨A7, c7, rfl, l7, hF7, hq⟩; have HF7 := Aside0.mk hF7; have HL7 := Aside0.mk l7; clear hF7 l7; have H := H.go hq; have cg1 := H.c 6 rfl; have cg2 := H.c 5 rfl; have cg6 := H.c 1 rfl; have HFa := Aside0.mk (Kd.F_below HFa.out hq); have HFb := Aside0.mk (Kd.F_below HFb.out hq); clear hq; have qg6 := H.q 1 rfl) | (go_at_call 44; (with_reducible refine (HR3.out A7 c7 _ (Kd.F_now HF7.out) HL7.out).mono ?_); rintro e wq ⟨A9, c9, rfl, l9, hF9, hq⟩; have hlt := H.lt 0 rfl; have HF9 := Aside0.mk (Kd.F_mono (ok' := fun k => g7 < k) hF9 (fun k hk => Nat.lt_of_lt_of_le hlt hk)); have HL9 := Aside0.mk l9; clear l9; clear hF9 hlt; have H := H.go hq; have cg1 := H.c 6 rfl; have cg2 := H.c 5 rfl; have cg6 := H.c 1 rfl; have HFa := Aside0.mk (Kd.F_below HFa.out hq); have HFb := Aside0.mk (Kd.F_below HFb.out hq); clear hq; have qg6 := H.q 1 rfl))
  have H9 : St w ((((((((((((wq.setCell ⟨g6, 0, none⟩ (.int .i64 s0)).setCell ⟨g6, 1, none⟩ (.int .i64 s1)).setCell ⟨g6, 2, none⟩ (.int .i64 s2)).setCell ⟨g6, 3, none⟩ (.int .i64 s3)).setCell ⟨g6, 4, none⟩ (.bool s4)).setCell ⟨g6, 5, none⟩ (.int .i64 s5)).setCell ⟨g6, 6, none⟩ (.int .i64 s6)).setCell ⟨g6, 7, none⟩ (.int .i64 s7)).setCell ⟨g6, 8, none⟩ (.int .i64 s8)).setCell ⟨g6, 9, none⟩ (.string s9)).setCell ⟨g6, 10, none⟩ (.string s10)).setCell ⟨g6, 11, none⟩ (.slice A9 s11.length c9)) [(g7, #[.int .i64 r0, .int .i64 r1, .int .i64 r2, .int .i64 r3, .bool r4, .int .i64 r5, .int .i64 r6, .int .i64 r7, .int .i64 r8, .string r9, .string r10, .slice A6 rb.length c6], 109), (g6, #[.int .i64 s0, .int .i64 s1, .int .i64 s2, .int .i64 s3, .bool s4, .int .i64 s5, .int .i64 s6, .int .i64 s7, .int .i64 s8, .string s9, .string s10, .slice A9 s11.length c9], 107), (g5, #[.int .i64 z3, .int .i64 z4, .string z5, .slice A4 vl.length c4], 57), (g4, #[.int .i64 z0, .int .i64 z1, .string z2, .slice A3 vl.length c3], 54), (g3, #[.int .i64 o, .int .i64 run, .int .i64 node, .int .i64 tri, .bool ok, .int .i64 per, .int .i64 rol, .int .i64 til, .int .i64 cal, .string nm, .string fn, .slice A2 nb.length c2], 109), (g2, #[.int .i64 o, .int .i64 run, .int .i64 node, .int .i64 tri, .bool ok, .int .i64 per, .int .i64 rol, .int .i64 til, .int .i64 cal, .string nm, .string fn, .slice A1 na.length c1], 107), (g1, #[.int .i64 o, .int .i64 run, .int .i64 node, .int .i64 tri, .bool ok, .int .i64 per, .int .i64 rol, .int .i64 til, .int .i64 cal, .string nm, .string fn, .slice A l.length c], 104)] := H.sets 1 [.int .i64 s0, .int .i64 s1, .int .i64 s2, .int .i64 s3, .bool s4, .int .i64 s5, .int .i64 s6, .int .i64 s7, .int .i64 s8, .string s9, .string s10, .slice A9 s11.length c9] rfl rfl rfl
  have k1 := H.gt 1 5 (by decide) rfl rfl
  have k2 := H.gt 0 1 (by decide) rfl rfl
  have HFa' := Aside0.mk (show Kd.F _ ((((((((((((wq.setCell ⟨g6, 0, none⟩ (.int .i64 s0)).setCell ⟨g6, 1, none⟩ (.int .i64 s1)).setCell ⟨g6, 2, none⟩ (.int .i64 s2)).setCell ⟨g6, 3, none⟩ (.int .i64 s3)).setCell ⟨g6, 4, none⟩ (.bool s4)).setCell ⟨g6, 5, none⟩ (.int .i64 s5)).setCell ⟨g6, 6, none⟩ (.int .i64 s6)).setCell ⟨g6, 7, none⟩ (.int .i64 s7)).setCell ⟨g6, 8, none⟩ (.int .i64 s8)).setCell ⟨g6, 9, none⟩ (.string s9)).setCell ⟨g6, 10, none⟩ (.string s10)).setCell ⟨g6, 11, none⟩ (.slice A9 s11.length c9)) _ _ _ _ from Kd.F_step HFa.out (fun k (hk : k < g2) _ => sets_o (g := g6) (by omega) [.int .i64 s0, .int .i64 s1, .int .i64 s2, .int .i64 s3, .bool s4, .int .i64 s5, .int .i64 s6, .int .i64 s7, .int .i64 s8, .string s9, .string s10, .slice A9 s11.length c9] 0 wq))
  have HFb' := Aside0.mk (show Kd.F _ ((((((((((((wq.setCell ⟨g6, 0, none⟩ (.int .i64 s0)).setCell ⟨g6, 1, none⟩ (.int .i64 s1)).setCell ⟨g6, 2, none⟩ (.int .i64 s2)).setCell ⟨g6, 3, none⟩ (.int .i64 s3)).setCell ⟨g6, 4, none⟩ (.bool s4)).setCell ⟨g6, 5, none⟩ (.int .i64 s5)).setCell ⟨g6, 6, none⟩ (.int .i64 s6)).setCell ⟨g6, 7, none⟩ (.int .i64 s7)).setCell ⟨g6, 8, none⟩ (.int .i64 s8)).setCell ⟨g6, 9, none⟩ (.string s9)).setCell ⟨g6, 10, none⟩ (.string s10)).setCell ⟨g6, 11, none⟩ (.slice A9 s11.length c9)) _ _ _ _ from Kd.F_step HFb.out (fun k (hk : k < g2) _ => sets_o (g := g6) (by omega) [.int .i64 s0, .int .i64 s1, .int .i64 s2, .int .i64 s3, .bool s4, .int .i64 s5, .int .i64 s6, .int .i64 s7, .int .i64 s8, .string s9, .string s10, .slice A9 s11.length c9] 0 wq))
  have HF9' := Aside0.mk (show Kd.F _ ((((((((((((wq.setCell ⟨g6, 0, none⟩ (.int .i64 s0)).setCell ⟨g6, 1, none⟩ (.int .i64 s1)).setCell ⟨g6, 2, none⟩ (.int .i64 s2)).setCell ⟨g6, 3, none⟩ (.int .i64 s3)).setCell ⟨g6, 4, none⟩ (.bool s4)).setCell ⟨g6, 5, none⟩ (.int .i64 s5)).setCell ⟨g6, 6, none⟩ (.int .i64 s6)).setCell ⟨g6, 7, none⟩ (.int .i64 s7)).setCell ⟨g6, 8, none⟩ (.int .i64 s8)).setCell ⟨g6, 9, none⟩ (.string s9)).setCell ⟨g6, 10, none⟩ (.string s10)).setCell ⟨g6, 11, none⟩ (.slice A9 s11.length c9)) _ _ _ _ from Kd.F_step HF9.out (fun k (hk : g7 < k) _ => sets_o (g := g6) (by omega) [.int .i64 s0, .int .i64 s1, .int .i64 s2, .int .i64 s3, .bool s4, .int .i64 s5, .int .i64 s6, .int .i64 s7, .int .i64 s8, .string s9, .string s10, .slice A9 s11.length c9] 0 wq))
  clear HFa HFb HF9 cg2 cg1 cg6 qg6 ng1 ng2 mg1 mg2 k1 k2 HF7 HL7
  generalize ((((((((((((wq.setCell ⟨g6, 0, none⟩ (.int .i64 s0)).setCell ⟨g6, 1, none⟩ (.int .i64 s1)).setCell ⟨g6, 2, none⟩ (.int .i64 s2)).setCell ⟨g6, 3, none⟩ (.int .i64 s3)).setCell ⟨g6, 4, none⟩ (.bool s4)).setCell ⟨g6, 5, none⟩ (.int .i64 s5)).setCell ⟨g6, 6, none⟩ (.int .i64 s6)).setCell ⟨g6, 7, none⟩ (.int .i64 s7)).setCell ⟨g6, 8, none⟩ (.int .i64 s8)).setCell ⟨g6, 9, none⟩ (.string s9)).setCell ⟨g6, 10, none⟩ (.string s10)).setCell ⟨g6, 11, none⟩ (.slice A9 s11.length c9)) = w8 at H9 HFa' HFb' HF9' ⊢
  have HFa := HFa'
  have HFb := HFb'
  have HF9 := HF9'
  clear HFa' HFb' HF9'
  have H := H9
  clear H9
  go_upto_region 10 with fail
  have H := H.drew
  replace HFa := Aside0.mk (Kd.F_drew HFa.out)
  replace HFb := Aside0.mk (Kd.F_drew HFb.out)
  replace HF9 := Aside0.mk (Kd.F_drew HF9.out)
  have cg1 := H.c 6 rfl
  have cg3 := H.c 4 rfl
  have cg7 := H.c 0 rfl
  have qg7 := H.q 0 rfl
  have ng1 : g1 ≠ g7 := Nat.ne_of_lt (H.gt 0 6 (by decide) rfl rfl)
  have mg1 := ng1.symm
  have ng3 : g3 ≠ g7 := Nat.ne_of_lt (H.gt 0 4 (by decide) rfl rfl)
  have mg3 := ng3.symm
  go_region_held3 (fun w' => (∀ i, w'.cell? ⟨g1, i, none⟩ = (#[.int .i64 o, .int .i64 run, .int .i64 node, .int .i64 tri, .bool ok, .int .i64 per, .int .i64 rol, .int .i64 til, .int .i64 cal, .string nm, .string fn, .slice A l.length c] : Array Value)[i]?) ∧ (∀ i, w'.cell? ⟨g3, i, none⟩ = (#[.int .i64 o, .int .i64 run, .int .i64 node, .int .i64 tri, .bool ok, .int .i64 per, .int .i64 rol, .int .i64 til, .int .i64 cal, .string nm, .string fn, .slice A2 nb.length c2] : Array Value)[i]?)) ((first | (with_reducible exact ⟨cg1, cg3⟩) | exact ⟨fun i => (sets_cell (g := g7) ng1 [.int .i64 s0, .int .i64 s1, .int .i64 s2, .int .i64 s3, .bool s4, .int .i64 s5, .int .i64 s6, .int .i64 s7, .int .i64 s8, .string s9, .string s10, .slice Ab sb.length cb] 0 _).trans (cg1 i), fun i => (sets_cell (g := g7) ng3 [.int .i64 s0, .int .i64 s1, .int .i64 s2, .int .i64 s3, .bool s4, .int .i64 s5, .int .i64 s6, .int .i64 s7, .int .i64 s8, .string s9, .string s10, .slice Ab sb.length cb] 0 _).trans (cg3 i)⟩)) (first | (go_at_call 43; (with_reducible refine (HAW.out A2 c2 _ (Kd.F_now HFb.out)).mono ?_); rintro e wq ⟨A7, c7, rfl, l7, hF7, hq⟩; have HF7 := Aside0.mk hF7; have HL7 := Aside0.mk l7; clear hF7 l7; have H := H.go hq; have cg1 := H.c 6 rfl; have cg3 := H.c 4 rfl; have cg7 := H.c 0 rfl; have HFa := Aside0.mk (Kd.F_below HFa.out hq); have HFb := Aside0.mk (Kd.F_below HFb.out hq); have HF9 := Aside0.mk (Kd.F_below HF9.out hq); clear hq; have qg7 := H.q 0 rfl) | (go_at_call 45; (with_reducible refine (HR4.out A7 c7 _ (Kd.F_now HF7.out) HL7.out).mono ?_); rintro e wq ⟨Ab, cb, rfl, hF9, hq⟩; have hlt := H.lt 0 rfl; have HF0 := Aside0.mk (Kd.F_mono (ok' := fun k => g7 < k) hF9 (fun k hk => Nat.lt_of_lt_of_le hlt hk)); clear hF9 hlt; have H := H.go hq; have cg1 := H.c 6 rfl; have cg3 := H.c 4 rfl; have cg7 := H.c 0 rfl; have HFa := Aside0.mk (Kd.F_below HFa.out hq); have HFb := Aside0.mk (Kd.F_below HFb.out hq); have HF9 := Aside0.mk (Kd.F_below HF9.out hq); clear hq; have qg7 := H.q 0 rfl))
  have H9 : St w ((((((((((((wq.setCell ⟨g7, 0, none⟩ (.int .i64 s0)).setCell ⟨g7, 1, none⟩ (.int .i64 s1)).setCell ⟨g7, 2, none⟩ (.int .i64 s2)).setCell ⟨g7, 3, none⟩ (.int .i64 s3)).setCell ⟨g7, 4, none⟩ (.bool s4)).setCell ⟨g7, 5, none⟩ (.int .i64 s5)).setCell ⟨g7, 6, none⟩ (.int .i64 s6)).setCell ⟨g7, 7, none⟩ (.int .i64 s7)).setCell ⟨g7, 8, none⟩ (.int .i64 s8)).setCell ⟨g7, 9, none⟩ (.string s9)).setCell ⟨g7, 10, none⟩ (.string s10)).setCell ⟨g7, 11, none⟩ (.slice Ab sb.length cb)) [(g7, #[.int .i64 s0, .int .i64 s1, .int .i64 s2, .int .i64 s3, .bool s4, .int .i64 s5, .int .i64 s6, .int .i64 s7, .int .i64 s8, .string s9, .string s10, .slice Ab sb.length cb], 109), (g6, #[.int .i64 s0, .int .i64 s1, .int .i64 s2, .int .i64 s3, .bool s4, .int .i64 s5, .int .i64 s6, .int .i64 s7, .int .i64 s8, .string s9, .string s10, .slice A9 s11.length c9], 107), (g5, #[.int .i64 z3, .int .i64 z4, .string z5, .slice A4 vl.length c4], 57), (g4, #[.int .i64 z0, .int .i64 z1, .string z2, .slice A3 vl.length c3], 54), (g3, #[.int .i64 o, .int .i64 run, .int .i64 node, .int .i64 tri, .bool ok, .int .i64 per, .int .i64 rol, .int .i64 til, .int .i64 cal, .string nm, .string fn, .slice A2 nb.length c2], 109), (g2, #[.int .i64 o, .int .i64 run, .int .i64 node, .int .i64 tri, .bool ok, .int .i64 per, .int .i64 rol, .int .i64 til, .int .i64 cal, .string nm, .string fn, .slice A1 na.length c1], 107), (g1, #[.int .i64 o, .int .i64 run, .int .i64 node, .int .i64 tri, .bool ok, .int .i64 per, .int .i64 rol, .int .i64 til, .int .i64 cal, .string nm, .string fn, .slice A l.length c], 104)] := H.sets 0 [.int .i64 s0, .int .i64 s1, .int .i64 s2, .int .i64 s3, .bool s4, .int .i64 s5, .int .i64 s6, .int .i64 s7, .int .i64 s8, .string s9, .string s10, .slice Ab sb.length cb] rfl rfl rfl
  have k1 := H.gt 1 5 (by decide) rfl rfl
  have k2 := H.gt 0 1 (by decide) rfl rfl
  have HFa' := Aside0.mk (show Kd.F _ ((((((((((((wq.setCell ⟨g7, 0, none⟩ (.int .i64 s0)).setCell ⟨g7, 1, none⟩ (.int .i64 s1)).setCell ⟨g7, 2, none⟩ (.int .i64 s2)).setCell ⟨g7, 3, none⟩ (.int .i64 s3)).setCell ⟨g7, 4, none⟩ (.bool s4)).setCell ⟨g7, 5, none⟩ (.int .i64 s5)).setCell ⟨g7, 6, none⟩ (.int .i64 s6)).setCell ⟨g7, 7, none⟩ (.int .i64 s7)).setCell ⟨g7, 8, none⟩ (.int .i64 s8)).setCell ⟨g7, 9, none⟩ (.string s9)).setCell ⟨g7, 10, none⟩ (.string s10)).setCell ⟨g7, 11, none⟩ (.slice Ab sb.length cb)) _ _ _ _ from Kd.F_step HFa.out (fun k (hk : k < g2) _ => sets_o (g := g7) (by omega) [.int .i64 s0, .int .i64 s1, .int .i64 s2, .int .i64 s3, .bool s4, .int .i64 s5, .int .i64 s6, .int .i64 s7, .int .i64 s8, .string s9, .string s10, .slice Ab sb.length cb] 0 wq))
  have HFb' := Aside0.mk (show Kd.F _ ((((((((((((wq.setCell ⟨g7, 0, none⟩ (.int .i64 s0)).setCell ⟨g7, 1, none⟩ (.int .i64 s1)).setCell ⟨g7, 2, none⟩ (.int .i64 s2)).setCell ⟨g7, 3, none⟩ (.int .i64 s3)).setCell ⟨g7, 4, none⟩ (.bool s4)).setCell ⟨g7, 5, none⟩ (.int .i64 s5)).setCell ⟨g7, 6, none⟩ (.int .i64 s6)).setCell ⟨g7, 7, none⟩ (.int .i64 s7)).setCell ⟨g7, 8, none⟩ (.int .i64 s8)).setCell ⟨g7, 9, none⟩ (.string s9)).setCell ⟨g7, 10, none⟩ (.string s10)).setCell ⟨g7, 11, none⟩ (.slice Ab sb.length cb)) _ _ _ _ from Kd.F_step HFb.out (fun k (hk : k < g2) _ => sets_o (g := g7) (by omega) [.int .i64 s0, .int .i64 s1, .int .i64 s2, .int .i64 s3, .bool s4, .int .i64 s5, .int .i64 s6, .int .i64 s7, .int .i64 s8, .string s9, .string s10, .slice Ab sb.length cb] 0 wq))
  have HF9' := Aside0.mk (show Kd.F _ ((((((((((((wq.setCell ⟨g7, 0, none⟩ (.int .i64 s0)).setCell ⟨g7, 1, none⟩ (.int .i64 s1)).setCell ⟨g7, 2, none⟩ (.int .i64 s2)).setCell ⟨g7, 3, none⟩ (.int .i64 s3)).setCell ⟨g7, 4, none⟩ (.bool s4)).setCell ⟨g7, 5, none⟩ (.int .i64 s5)).setCell ⟨g7, 6, none⟩ (.int .i64 s6)).setCell ⟨g7, 7, none⟩ (.int .i64 s7)).setCell ⟨g7, 8, none⟩ (.int .i64 s8)).setCell ⟨g7, 9, none⟩ (.string s9)).setCell ⟨g7, 10, none⟩ (.string s10)).setCell ⟨g7, 11, none⟩ (.slice Ab sb.length cb)) _ _ _ _ from Kd.F_step HF9.out (fun k (hk : g7 < k) _ => sets_o (g := g7) (by omega) [.int .i64 s0, .int .i64 s1, .int .i64 s2, .int .i64 s3, .bool s4, .int .i64 s5, .int .i64 s6, .int .i64 s7, .int .i64 s8, .string s9, .string s10, .slice Ab sb.length cb] 0 wq))
  have HF0' := Aside0.mk (show Kd.F _ ((((((((((((wq.setCell ⟨g7, 0, none⟩ (.int .i64 s0)).setCell ⟨g7, 1, none⟩ (.int .i64 s1)).setCell ⟨g7, 2, none⟩ (.int .i64 s2)).setCell ⟨g7, 3, none⟩ (.int .i64 s3)).setCell ⟨g7, 4, none⟩ (.bool s4)).setCell ⟨g7, 5, none⟩ (.int .i64 s5)).setCell ⟨g7, 6, none⟩ (.int .i64 s6)).setCell ⟨g7, 7, none⟩ (.int .i64 s7)).setCell ⟨g7, 8, none⟩ (.int .i64 s8)).setCell ⟨g7, 9, none⟩ (.string s9)).setCell ⟨g7, 10, none⟩ (.string s10)).setCell ⟨g7, 11, none⟩ (.slice Ab sb.length cb)) _ _ _ _ from Kd.F_step HF0.out (fun k (hk : g7 < k) _ => sets_o (g := g7) (by omega) [.int .i64 s0, .int .i64 s1, .int .i64 s2, .int .i64 s3, .bool s4, .int .i64 s5, .int .i64 s6, .int .i64 s7, .int .i64 s8, .string s9, .string s10, .slice Ab sb.length cb] 0 wq))
  clear HFa HFb HF9 HF0 cg3 cg1 cg7 qg7 ng1 ng3 mg1 mg3 k1 k2 HF7 HL7
  generalize ((((((((((((wq.setCell ⟨g7, 0, none⟩ (.int .i64 s0)).setCell ⟨g7, 1, none⟩ (.int .i64 s1)).setCell ⟨g7, 2, none⟩ (.int .i64 s2)).setCell ⟨g7, 3, none⟩ (.int .i64 s3)).setCell ⟨g7, 4, none⟩ (.bool s4)).setCell ⟨g7, 5, none⟩ (.int .i64 s5)).setCell ⟨g7, 6, none⟩ (.int .i64 s6)).setCell ⟨g7, 7, none⟩ (.int .i64 s7)).setCell ⟨g7, 8, none⟩ (.int .i64 s8)).setCell ⟨g7, 9, none⟩ (.string s9)).setCell ⟨g7, 10, none⟩ (.string s10)).setCell ⟨g7, 11, none⟩ (.slice Ab sb.length cb)) = w9 at H9 HFa' HFb' HF9' HF0' ⊢
  have HFa := HFa'
  have HFb := HFb'
  have HF9 := HF9'
  have HF0 := HF0'
  clear HFa' HFb' HF9' HF0'
  have H := H9
  clear H9
  have cg6 := H.c 1 rfl
  have cg7 := H.c 0 rfl
  have ee : (et == et) = true := beq_self_eq_true _
  go_wp2_with (go_at_call 46; go_loud ((with_reducible refine (HS2.out A9 c9 Ab cb _ (Kd.F_now HF9.out) (Kd.F_now HF0.out) HL9.out).mono ?_); rintro e wq ⟨rfl, hq⟩; have H := H.go hq; clear hq))
  exact bodyPost_ret (results_tmp Try.results12 _ _ _) rfl ⟨rfl, H.hb⟩
end Go.Proofs.Ytjicfkmpgogppaa.Oa
