/-
  sameAsk, walked: of an ask and the document's that are alike.
-/
import Derived.Test.YtjicfkmpgogppaaPAx19
import Derived.Test.YtjicfkmpgogppaaH5
import Derived.Test.YtjicfkmpgogppaaRvW
import Derived.Test.YtjicfkmpgogppaaH2
namespace Go.Proofs.Ytjicfkmpgogppaa.Sa
set_option linter.unusedVariables false
set_option linter.unusedSimpArgs false
open Go Go.RowKit Go.Proofs.Ytjicfkmpgogppaa.Plain Go.Proofs.Ytjicfkmpgogppaa.Vs Go.Proofs.Ytjicfkmpgogppaa.Sh Go.Proofs.Ytjicfkmpgogppaa.PA Go.Proofs.YtjicfkmpgogppaaW.PrintWords Go.Proofs.YtjicfkmpgogppaaW.PrintLast Go.Proofs.YtjicfkmpgogppaaW.PrintMore
open Go.Proofs.Ytjicfkmpgogppaa.Gv (strV numV allV nodeV flowV A_ E0)
open Go.Proofs.Ytjicfkmpgogppaa.Vw (strW numW allW nodeW B_)
set_option maxHeartbeats 8000000 in
set_option maxRecDepth 100000 in
theorem same_ask (o run node tri : Int) (ok : Bool) (per rol til cal : Int) (nm fn : ByteArray) (A1 A2 : Option Addr) (c1 c2 : Nat) (la : List A_) (lb : List B_) (w : World)
    (hA : Kd.C k48 w A1 la.length la) (hB : Kd.C k125 w A2 lb.length lb) (hc1 : la.length ≤ c1) (hn : lb.length ≤ 1000000) (hd : ∀ x ∈ lb, x.f1.length ≤ 1000000)
    (K : Nat) (hK : graph_Value.f K fn la = some (2, 0, E0, [strV fn, allV (la.map nodeV)])) (hT : toWs [strV fn, allV (la.map nodeV)] = [strW fn, allW (lb.map nodeW)]) :
    Calls Try.prog 46 #[.agg #[.int .i64 o, .int .i64 run, .int .i64 node, .int .i64 tri, .bool ok, .int .i64 per, .int .i64 rol, .int .i64 til, .int .i64 cal, .string nm, .string fn, .slice A1 la.length c1], .agg #[.int .i64 o, .int .i64 run, .int .i64 node, .int .i64 tri, .bool ok, .int .i64 per, .int .i64 rol, .int .i64 til, .int .i64 cal, .string nm, .string fn, .slice A2 lb.length c2]] w fun e w' => e = .returned (.bool true) ∧ Bl w w' := by
  have hu1 := Try.underlying107
  have hu2 := Try.underlying109
  have hu4 := Try.underlying27
  have hu5 := Try.underlying30
  have H := ((St.start w).allocN #[.int .i64 o, .int .i64 run, .int .i64 node, .int .i64 tri, .bool ok, .int .i64 per, .int .i64 rol, .int .i64 til, .int .i64 cal, .string nm, .string fn, .slice A1 la.length c1] 107 w.heap.size rfl).allocN #[.int .i64 o, .int .i64 run, .int .i64 node, .int .i64 tri, .bool ok, .int .i64 per, .int .i64 rol, .int .i64 til, .int .i64 cal, .string nm, .string fn, .slice A2 lb.length c2] 109 (w.heap.size + 1) (by simp only [new_size])
  have HA := Aside0.mk hA
  have HB := Aside0.mk hB
  have HK := Aside0.mk hK
  have HT := Aside0.mk hT
  have HD := Aside0.mk hd
  have HN := Aside0.mk hn
  have HC1 := Aside0.mk hc1
  clear hA hB hK hT hd hn hc1
  go_enter Try.func46, Try.ntmps46
  go_upto_region 1 with fail
  generalize (w.alloc (.cells #[.int .i64 o, .int .i64 run, .int .i64 node, .int .i64 tri, .bool ok, .int .i64 per, .int .i64 rol, .int .i64 til, .int .i64 cal, .string nm, .string fn, .slice A1 la.length c1] 107)).alloc (.cells #[.int .i64 o, .int .i64 run, .int .i64 node, .int .i64 tri, .bool ok, .int .i64 per, .int .i64 rol, .int .i64 til, .int .i64 cal, .string nm, .string fn, .slice A2 lb.length c2] 109) = w1 at H ⊢
  obtain ⟨g1, hg1⟩ : ∃ g, w.heap.size = g := ⟨_, rfl⟩
  obtain ⟨g2, hg2⟩ : ∃ g, g1 + 1 = g := ⟨_, rfl⟩
  rw [hg1, hg2] at H ⊢
  clear hg1 hg2
  have c1_ := H.c 1 rfl
  have c2_ := H.c 0 rfl
  have H := H.drew
  have HV := Aside0.mk (graph_Value.calls K fn A1 c1 la _ _ _ _ w1.drew (Kd.C_below HA.out H.hb) HC1.out HK.out)
  have HS := Aside0.mk (show ∀ (A5 : Option Addr) (c5 : Nat) (A6 : Option Addr) (c6 : Nat) (w' : World), Kd.C k54 w' A5 2 [strV fn, allV (la.map nodeV)] → Kd.C k57 w' A6 2 [strW fn, allW (lb.map nodeW)] → Calls Try.prog 39 #[.agg #[.int .i64 2, .int .i64 0, .string E0, .slice A5 2 c5], .agg #[.int .i64 2, .int .i64 0, .string E0, .slice A6 2 c6]] w' fun e w'' => e = .returned (.bool true) ∧ Bl w' w'' from fun A5 c5 A6 c6 w' h1 h2 => Sm.same_walk (allV [strV fn, allV (la.map nodeV)]) A5 c5 A6 c6 w' h1 (HT.out ▸ h2))
  simp only [List.append]
  go_region_held3 (fun w' => (∀ i, w'.cell? ⟨g1, i, none⟩ = (#[.int .i64 o, .int .i64 run, .int .i64 node, .int .i64 tri, .bool ok, .int .i64 per, .int .i64 rol, .int .i64 til, .int .i64 cal, .string nm, .string fn, .slice A1 la.length c1] : Array Value)[i]?) ∧ (∀ i, w'.cell? ⟨g2, i, none⟩ = (#[.int .i64 o, .int .i64 run, .int .i64 node, .int .i64 tri, .bool ok, .int .i64 per, .int .i64 rol, .int .i64 til, .int .i64 cal, .string nm, .string fn, .slice A2 lb.length c2] : Array Value)[i]?)) (exact ⟨c1_, c2_⟩) (first | (go_at_call 25; (with_reducible refine HV.out.mono ?_); rintro e wq ⟨u, rfl, hN, hq⟩; obtain ⟨A5, c5, rfl, l5, hF5⟩ := Kd.N_V (base' := 0) hN; have HF := Aside0.mk hF5; have H := H.go hq; have c1_ := H.c 1 rfl; have c2_ := H.c 0 rfl; clear hF5 l5 hN hq) | (go_at_call 26; (with_reducible refine (Vw.value_walk fn lb A2 c2 _ (Kd.C_below HB.out H.hb) HN.out HD.out).mono ?_); rintro e wq2 ⟨u, rfl, ⟨A6, c6, rfl, l6, hF6⟩, hq⟩; have HF6 := Aside0.mk hF6; have HF := Aside0.mk (Kd.F_below HF.out hq); have H := H.go hq; have c1_ := H.c 1 rfl; have c2_ := H.c 0 rfl; clear hF6 l6 hq) | (go_at_call 39; (with_reducible refine (HS.out A5 c5 A6 c6 _ (Kd.F_now HF.out) (Kd.F_now HF6.out)).mono ?_); rintro e wq3 ⟨rfl, hq⟩; have H := H.go hq; have c1_ := H.c 1 rfl; have c2_ := H.c 0 rfl; clear hq))
  go_wp2
  exact bodyPost_ret (results_tmp Try.results46 _ _ _) rfl ⟨rfl, H.hb⟩
end Go.Proofs.Ytjicfkmpgogppaa.Sa
