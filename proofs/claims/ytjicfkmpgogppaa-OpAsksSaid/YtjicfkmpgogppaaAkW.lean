/-
  asks, walked.
-/
import Derived.Test.YtjicfkmpgogppaaFlows
import Derived.Test.YtjicfkmpgogppaaH0
import Derived.LoopTactic
import Derived.Outline
import Derived.Deep.RegionHeld3
namespace Go.Proofs.Ytjicfkmpgogppaa.Ak
set_option linter.unusedVariables false
set_option linter.unusedSimpArgs false
open Go Go.RowKit Go.Proofs.Ytjicfkmpgogppaa.Plain Go.Proofs.Ytjicfkmpgogppaa.Sh Go.Proofs.Ytjicfkmpgogppaa.PA Go.Proofs.YtjicfkmpgogppaaW.PrintWords Go.Proofs.YtjicfkmpgogppaaW.PrintLast Go.Proofs.YtjicfkmpgogppaaW.PrintMore
abbrev A_ := S48
abbrev B_ := S125
abbrev N_ := S121
abbrev kA := k48
abbrev kB := k125
set_option maxHeartbeats 6000000 in
set_option maxRecDepth 100000 in
theorem asks_walk (o run node tri : Int) (ok : Bool) (per rol til cal : Int) (nm fn : ByteArray) (A : Option Addr) (c : Nat) (l : List N_) (w : World) (hC : Kd.C k121 w A l.length l) (hc : l.length ≤ c) :
    Calls Try.prog 41 #[.agg #[.int .i64 o, .int .i64 run, .int .i64 node, .int .i64 tri, .bool ok, .int .i64 per, .int .i64 rol, .int .i64 til, .int .i64 cal, .string nm, .string fn, .slice A l.length c]] w fun e w' => ∃ A1 c1 A2 c2, e = .returned (.tuple #[.agg #[.int .i64 o, .int .i64 run, .int .i64 node, .int .i64 tri, .bool ok, .int .i64 per, .int .i64 rol, .int .i64 til, .int .i64 cal, .string nm, .string fn, .slice A1 ((l.take 20).map Fw.toA).length c1], .agg #[.int .i64 o, .int .i64 run, .int .i64 node, .int .i64 tri, .bool ok, .int .i64 per, .int .i64 rol, .int .i64 til, .int .i64 cal, .string nm, .string fn, .slice A2 ((l.take 20).map Fw.toB).length c2]]) ∧ ((l.take 20).map Fw.toA).length ≤ c1 ∧ ((l.take 20).map Fw.toB).length ≤ c2 ∧ Kd.F kA w' (fun k => w.heap.size ≤ k) A1 ((l.take 20).map Fw.toA).length ((l.take 20).map Fw.toA) ∧ Kd.F kB w' (fun k => w.heap.size ≤ k) A2 ((l.take 20).map Fw.toB).length ((l.take 20).map Fw.toB) ∧ Bl w w' := by
  have hu1 := Try.underlying104
  have hu2 := Try.underlying107
  have hu3 := Try.underlying109
  have hu4 := Try.underlying27
  have hu5 := Try.underlying30
  have hu6 := Try.underlying102
  have HC := Aside0.mk hC
  have Hc := Aside0.mk hc
  clear hC hc
  generalize hla : (l.take 20).map Fw.toA = la
  generalize hlb : (l.take 20).map Fw.toB = lb
  have HLA := Aside0.mk hla
  have HLB := Aside0.mk hlb
  clear hla hlb
  go_enter Try.func41, Try.ntmps41
  have H := (((St.start w).allocN #[.int .i64 o, .int .i64 run, .int .i64 node, .int .i64 tri, .bool ok, .int .i64 per, .int .i64 rol, .int .i64 til, .int .i64 cal, .string nm, .string fn, .slice A l.length c] 104 w.heap.size rfl).allocN #[.int .i64 0, .int .i64 0, .int .i64 0, .int .i64 0, .bool false, .int .i64 0, .int .i64 0, .int .i64 0, .int .i64 0, .string ⟨#[]⟩, .string ⟨#[]⟩, .slice none 0 0] 107 (w.heap.size + 1) (by simp only [new_size])).allocN #[.int .i64 0, .int .i64 0, .int .i64 0, .int .i64 0, .bool false, .int .i64 0, .int .i64 0, .int .i64 0, .int .i64 0, .string ⟨#[]⟩, .string ⟨#[]⟩, .slice none 0 0] 109 (w.heap.size + 1 + 1) (by simp only [new_size])
  go_upto_region 1 with fail
  generalize ((w.alloc (.cells #[.int .i64 o, .int .i64 run, .int .i64 node, .int .i64 tri, .bool ok, .int .i64 per, .int .i64 rol, .int .i64 til, .int .i64 cal, .string nm, .string fn, .slice A l.length c] 104)).alloc (.cells #[.int .i64 0, .int .i64 0, .int .i64 0, .int .i64 0, .bool false, .int .i64 0, .int .i64 0, .int .i64 0, .int .i64 0, .string ⟨#[]⟩, .string ⟨#[]⟩, .slice none 0 0] 107)).alloc (.cells #[.int .i64 0, .int .i64 0, .int .i64 0, .int .i64 0, .bool false, .int .i64 0, .int .i64 0, .int .i64 0, .int .i64 0, .string ⟨#[]⟩, .string ⟨#[]⟩, .slice none 0 0] 109) = w1 at H ⊢
  obtain ⟨g1, hg1⟩ : ∃ g, w.heap.size = g := ⟨_, rfl⟩
  obtain ⟨g2, hg2⟩ : ∃ g, g1 + 1 = g := ⟨_, rfl⟩
  obtain ⟨g3, hg3⟩ : ∃ g, g2 + 1 = g := ⟨_, rfl⟩
  rw [hg1, hg2, hg3] at H ⊢
  have HG := Aside0.mk hg1
  clear hg1 hg2 hg3
  have cc := H.c 2 rfl
  have HV := Aside0.mk (Fw.flows_walk fn l A c w1 (Kd.C_below HC.out H.hb) Hc.out)
  rw [HLA.out, HLB.out] at HV
  go_upto_region 2 with (go_at_call 78; go_loud ((with_reducible refine HV.out.mono ?_); rintro e wq ⟨va, vb, rfl, hSa, hSb, hq⟩; obtain ⟨A1, c1, rfl, l1, hFa⟩ := Kd.S_V (base' := 0) (Kd.S_bound hSa); obtain ⟨A2, c2, rfl, l2, hFb⟩ := Kd.S_V (base' := 0) (Kd.S_bound hSb); have HL1 := Aside0.mk l1; have HL2 := Aside0.mk l2; have HFa := Aside0.mk hFa; have HFb := Aside0.mk hFb; clear hSa hSb l1 l2 hFa hFb))
  have hs := H.hb.size
  have h3 := H.lt 0 rfl
  replace H := ((H.go hq).allocN #[.string fn, .slice A1 la.length c1] 27 wq.heap.size rfl).allocN #[.string fn, .slice A2 lb.length c2] 30 (wq.heap.size + 1) (by simp only [new_size])
  have hFa := Kd.F_alloc (Kd.F_alloc (Kd.F_mono (ok' := fun k => g3 < k ∧ w.heap.size ≤ k) HFa.out (fun k hk => ⟨Nat.lt_of_lt_of_le h3 hk.2.1, Nat.le_trans hs hk.2.1⟩)) (.cells #[.string fn, .slice A1 la.length c1] 27)) (.cells #[.string fn, .slice A2 lb.length c2] 30)
  have hFb := Kd.F_alloc (Kd.F_alloc (Kd.F_mono (ok' := fun k => g3 < k ∧ w.heap.size ≤ k) HFb.out (fun k hk => ⟨Nat.lt_of_lt_of_le h3 hk.2.1, Nat.le_trans hs hk.2.1⟩)) (.cells #[.string fn, .slice A1 la.length c1] 27)) (.cells #[.string fn, .slice A2 lb.length c2] 30)
  clear cc hq HFa HFb HV hs h3
  generalize (wq.alloc (.cells #[.string fn, .slice A1 la.length c1] 27)).alloc (.cells #[.string fn, .slice A2 lb.length c2] 30) = w2 at H hFa hFb ⊢
  obtain ⟨g4, hg4⟩ : ∃ g, wq.heap.size = g := ⟨_, rfl⟩
  obtain ⟨g5, hg5⟩ : ∃ g, g4 + 1 = g := ⟨_, rfl⟩
  rw [hg4, hg5] at H ⊢
  clear hg4 hg5
  have HFa := Aside0.mk hFa
  have HFb := Aside0.mk hFb
  clear hFa hFb
  have cc := H.c 4 rfl
  have c4 := H.c 1 rfl
  have c5 := H.c 0 rfl
  have ca := H.c 3 rfl
  have cb := H.c 2 rfl
  have qa := H.q 3 rfl
  have qb := H.q 2 rfl
  have n1 : g2 ≠ g1 := Nat.ne_of_gt (H.gt 3 4 (by decide) rfl rfl)
  have n2 : g3 ≠ g1 := Nat.ne_of_gt (H.gt 2 4 (by decide) rfl rfl)
  have n3 : g3 ≠ g2 := Nat.ne_of_gt (H.gt 2 3 (by decide) rfl rfl)
  have n4 : g4 ≠ g2 := Nat.ne_of_gt (H.gt 1 3 (by decide) rfl rfl)
  have n5 : g4 ≠ g3 := Nat.ne_of_gt (H.gt 1 2 (by decide) rfl rfl)
  have n6 : g5 ≠ g2 := Nat.ne_of_gt (H.gt 0 3 (by decide) rfl rfl)
  have n7 : g5 ≠ g3 := Nat.ne_of_gt (H.gt 0 2 (by decide) rfl rfl)
  have m3 : g2 ≠ g3 := n3.symm
  have m4 : g2 ≠ g4 := n4.symm
  have m5 : g3 ≠ g4 := n5.symm
  have m6 : g2 ≠ g5 := n6.symm
  have m7 : g3 ≠ g5 := n7.symm
  go_region_held3 (fun w' => w'.cell? ⟨g1, 0, none⟩ = some (.int .i64 o) ∧ w'.cell? ⟨g1, 1, none⟩ = some (.int .i64 run) ∧ w'.cell? ⟨g1, 2, none⟩ = some (.int .i64 node) ∧ w'.cell? ⟨g1, 3, none⟩ = some (.int .i64 tri) ∧ w'.cell? ⟨g1, 4, none⟩ = some (.bool ok) ∧ w'.cell? ⟨g1, 5, none⟩ = some (.int .i64 per) ∧ w'.cell? ⟨g1, 6, none⟩ = some (.int .i64 rol) ∧ w'.cell? ⟨g1, 7, none⟩ = some (.int .i64 til) ∧ w'.cell? ⟨g1, 8, none⟩ = some (.int .i64 cal) ∧ w'.cell? ⟨g1, 9, none⟩ = some (.string nm) ∧ w'.cell? ⟨g4, 0, none⟩ = some (.string fn) ∧ w'.cell? ⟨g4, 1, none⟩ = some (.slice A1 la.length c1) ∧ w'.cell? ⟨g5, 0, none⟩ = some (.string fn) ∧ w'.cell? ⟨g5, 1, none⟩ = some (.slice A2 lb.length c2)) (go_keep) (fail)
  have n0 := H.gt 2 3 (by decide) rfl rfl
  have H3 := ((H.sets 3 [.int .i64 o, .int .i64 run, .int .i64 node, .int .i64 tri, .bool ok, .int .i64 per, .int .i64 rol, .int .i64 til, .int .i64 cal, .string nm, .string fn, .slice A1 la.length c1] rfl rfl (L' := [(g5, #[.string fn, .slice A2 lb.length c2], 30), (g4, #[.string fn, .slice A1 la.length c1], 27), (g3, #[.int .i64 0, .int .i64 0, .int .i64 0, .int .i64 0, .bool false, .int .i64 0, .int .i64 0, .int .i64 0, .int .i64 0, .string ⟨#[]⟩, .string ⟨#[]⟩, .slice none 0 0], 109), (g2, #[.int .i64 o, .int .i64 run, .int .i64 node, .int .i64 tri, .bool ok, .int .i64 per, .int .i64 rol, .int .i64 til, .int .i64 cal, .string nm, .string fn, .slice A1 la.length c1], 107), (g1, #[.int .i64 o, .int .i64 run, .int .i64 node, .int .i64 tri, .bool ok, .int .i64 per, .int .i64 rol, .int .i64 til, .int .i64 cal, .string nm, .string fn, .slice A l.length c], 104)]) rfl).sets 2 [.int .i64 o, .int .i64 run, .int .i64 node, .int .i64 tri, .bool ok, .int .i64 per, .int .i64 rol, .int .i64 til, .int .i64 cal, .string nm, .string fn, .slice A2 lb.length c2] rfl rfl (L' := [(g5, #[.string fn, .slice A2 lb.length c2], 30), (g4, #[.string fn, .slice A1 la.length c1], 27), (g3, #[.int .i64 o, .int .i64 run, .int .i64 node, .int .i64 tri, .bool ok, .int .i64 per, .int .i64 rol, .int .i64 til, .int .i64 cal, .string nm, .string fn, .slice A2 lb.length c2], 109), (g2, #[.int .i64 o, .int .i64 run, .int .i64 node, .int .i64 tri, .bool ok, .int .i64 per, .int .i64 rol, .int .i64 til, .int .i64 cal, .string nm, .string fn, .slice A1 la.length c1], 107), (g1, #[.int .i64 o, .int .i64 run, .int .i64 node, .int .i64 tri, .bool ok, .int .i64 per, .int .i64 rol, .int .i64 til, .int .i64 cal, .string nm, .string fn, .slice A l.length c], 104)]) rfl).drew
  have hFa := Kd.F_mono (ok' := fun k => w.heap.size ≤ k) (Kd.F_drew (Kd.F_step (Kd.F_step HFa.out (fun k hk _ => sets_o (g := g2) (by have := hk.1; omega) [.int .i64 o, .int .i64 run, .int .i64 node, .int .i64 tri, .bool ok, .int .i64 per, .int .i64 rol, .int .i64 til, .int .i64 cal, .string nm, .string fn, .slice A1 la.length c1] 0 w2)) (fun k hk _ => sets_o (g := g3) (by have := hk.1; omega) [.int .i64 o, .int .i64 run, .int .i64 node, .int .i64 tri, .bool ok, .int .i64 per, .int .i64 rol, .int .i64 til, .int .i64 cal, .string nm, .string fn, .slice A2 lb.length c2] 0 _))) (fun k hk => hk.2)
  have hFb := Kd.F_mono (ok' := fun k => w.heap.size ≤ k) (Kd.F_drew (Kd.F_step (Kd.F_step HFb.out (fun k hk _ => sets_o (g := g2) (by have := hk.1; omega) [.int .i64 o, .int .i64 run, .int .i64 node, .int .i64 tri, .bool ok, .int .i64 per, .int .i64 rol, .int .i64 til, .int .i64 cal, .string nm, .string fn, .slice A1 la.length c1] 0 w2)) (fun k hk _ => sets_o (g := g3) (by have := hk.1; omega) [.int .i64 o, .int .i64 run, .int .i64 node, .int .i64 tri, .bool ok, .int .i64 per, .int .i64 rol, .int .i64 til, .int .i64 cal, .string nm, .string fn, .slice A2 lb.length c2] 0 _))) (fun k hk => hk.2)
  clear cc c4 c5 ca cb qa qb n1 n2 n3 n4 n5 n6 n7 m3 m4 m5 m6 m7
  go_wp2
  exact bodyPost_ret (results_cc Try.results41 _ _ g2 g3 107 109 #[.int .i64 o, .int .i64 run, .int .i64 node, .int .i64 tri, .bool ok, .int .i64 per, .int .i64 rol, .int .i64 til, .int .i64 cal, .string nm, .string fn, .slice A1 la.length c1] #[.int .i64 o, .int .i64 run, .int .i64 node, .int .i64 tri, .bool ok, .int .i64 per, .int .i64 rol, .int .i64 til, .int .i64 cal, .string nm, .string fn, .slice A2 lb.length c2] (0, 0) (0, 0) _ _ rfl (H3.mem 3 rfl) hu2 rfl (by kernel_rfl) rfl (H3.mem 2 rfl) hu3 rfl (by kernel_rfl)) rfl ⟨A1, c1, A2, c2, rfl, HL1.out, HL2.out, hFa, hFb, H3.hb⟩
end Go.Proofs.Ytjicfkmpgogppaa.Ak
