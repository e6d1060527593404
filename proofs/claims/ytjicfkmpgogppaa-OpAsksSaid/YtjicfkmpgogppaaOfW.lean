/-
  op's reader: the next workflow.
-/
import Derived.Test.YtjicfkmpgogppaaOrW
import Derived.Test.YtjicfkmpgogppaaPAx27
import Derived.LoopTactic
import Derived.Outline
import Derived.Recover
import Derived.WalkSmall
namespace Go.Proofs.Ytjicfkmpgogppaa.Or
set_option linter.unusedVariables false
set_option linter.unusedSimpArgs false
open Go Go.RowKit Go.Proofs.Ytjicfkmpgogppaa.Vs Go.Proofs.Ytjicfkmpgogppaa.PA Go.Proofs.YtjicfkmpgogppaaW.PrintWords Go.Proofs.YtjicfkmpgogppaaW.PrintLast Go.Proofs.YtjicfkmpgogppaaW.PrintMore
abbrev A_ := S48
theorem keep_trans {a b c : World} {g : Nat} (h : KeepBut a b g none) (k : KeepBut b c g none) : KeepBut a c g none := h.trans k (.inl rfl)
theorem RS.go {w0 w w1 : World} {g : Nat} {l : List V} (h : RS w0 w g l) (hb : Below w.heap.size w w1) : RS w0 w1 g l := h.move (hb.block g h.lt) (below_then h.hb h.hb.size hb)
/-- next and Read, as flow has them -/
theorem next_two (x : V) (t : List V) (g : Nat) (w0 w : World) (h : RS w0 w g (x :: t)) (hk : x.f0 = 2) :
    Calls Try.prog 84 #[.pointer (some ⟨g, 0, none⟩), .int .i64 2] w fun e w' => ∃ A3 c3, e = .returned (.agg #[.int .i64 x.f0, .int .i64 x.f1, .string x.f2, .slice A3 x.f3.length c3]) ∧ x.f3.length ≤ c3 ∧ Kd.C k54 w0 A3 x.f3.length x.f3 ∧ RS w0 w' g t ∧ KeepBut w w' g none := by
  have := next_ok x t g w0 w h
  rwa [hk] at this ⊢
set_option maxHeartbeats 8000000 in
set_option maxRecDepth 100000 in
theorem flow_ok (K : Nat) (x : V) (t : List V) (g : Nat) (w0 w : World) (h : RS w0 w g (x :: t)) (hk : x.f0 = 2) (nm : ByteArray) (ns : List A_) (hF : graph_Read.f K x.f0 x.f1 x.f2 x.f3 = some (nm, ns, 0)) :
    Calls Try.prog 85 #[.pointer (some ⟨g, 0, none⟩)] w fun e w' => ∃ A c, e = .returned (.agg #[.string nm, .slice A ns.length c]) ∧ ns.length ≤ c ∧ Kd.F k48 w' (fun k => w.heap.size < k) A ns.length ns ∧ RS w0 w' g t ∧ KeepBut w w' g none := by
  have hu := Try.underlying54
  have hu2 := Try.underlying27
  have HF := Aside0.mk hF
  have hk1 : KeepBut w (w.alloc (.cells #[.string ⟨#[]⟩, .slice none 0 0] 27)) g none := keep_alloc (KeepBut.refl w g none) _
  have HK1 := Aside0.mk hk1
  have hz := blk_new w (.cells #[.string ⟨#[]⟩, .slice none 0 0] 27)
  have HN := Aside0.mk (next_two x t g w0 (w.alloc (.cells #[.string ⟨#[]⟩, .slice none 0 0] 27)) (h.alloc _) hk)
  have hg := h.lt
  have hg0 := h.hb.size
  clear h hk hF hk1
  obtain ⟨gz, hgz0⟩ : ∃ gz, w.heap.size = gz := ⟨_, rfl⟩
  have hzb : w.heap.size ≤ gz := Nat.le_of_eq hgz0
  have hs1 : (w.alloc (.cells #[.string ⟨#[]⟩, .slice none 0 0] 27)).heap.size = w.heap.size + 1 := Array.size_push _
  have HSZ := Aside0.mk hs1
  rw [hgz0] at hz
  have HZ := Aside0.mk hz
  have HGZ := Aside0.mk hgz0
  clear hs1 hz hgz0
  go_enter Try.func85, Try.ntmps85
  rw [HGZ.out]
  go_upto_region 2 with (first | (go_at_call 84; go_loud ((with_reducible refine HN.out.mono ?_); rintro e w1 ⟨A3, c3, rfl, l3, g3, hr, hk⟩; have HR := Aside0.mk hr; have HK := Aside0.mk hk; have HC := Aside0.mk (Kd.C_below g3 hr.hb); have HL := Aside0.mk l3; clear hr hk g3 l3)) | (go_at_call 22; go_loud ((with_reducible refine (graph_Read.calls K x.f0 x.f1 x.f2 A3 c3 x.f3 nm ns 0 _ HC.out HL.out HF.out).mono ?_); rintro e w2 ⟨v1, rfl, hs, hb⟩; obtain ⟨A5, c5, e5⟩ := Kd.N_slice (Kd.S_N hs); subst e5; have HS := Aside0.mk hs; have HB := Aside0.mk hb; clear hs hb)))
  rw [HGZ.out]
  have hgz : gz ≠ g := by omega
  have hz3 := blk_alloc (blk_below (HK.out.blk HZ.out hgz (by simp)) HB.out) (.cells #[.string nm, .slice A5 ns.length c5] 27)
  have hx3 := blk_new w2 (.cells #[.string nm, .slice A5 ns.length c5] 27)
  have hr3 := (HR.out.go HB.out).alloc (.cells #[.string nm, .slice A5 ns.length c5] 27)
  have hk3 : KeepBut w (w2.alloc (.cells #[.string nm, .slice A5 ns.length c5] 27)) g none := keep_alloc (keep_trans HK1.out (keep_trans HK.out (KeepBut.of_below HB.out g none))) _
  have hszz : gz < w1.heap.size := by have := HK.out.1; have := HSZ.out; have := HGZ.out; omega
  have hf3 := Kd.F_alloc (Kd.F_mono (ok' := fun k => gz < k) (Kd.N_F (Kd.S_N (Kd.S_bound HS.out))) (fun k hk => by have := hk.2.1; omega)) (.cells #[.string nm, .slice A5 ns.length c5] 27)
  have hl3 := (Kd.N_reads' (Kd.S_N HS.out)).2.1
  have hgx : gz < w2.heap.size := by have := HB.out.size; omega
  clear HR HK HB HS HN HC HL HZ HK1 HSZ
  generalize w2.alloc (.cells #[.string nm, .slice A5 ns.length c5] 27) = w3 at hz3 hx3 hr3 hk3 hf3 ⊢
  generalize w2.heap.size = gx at hx3 hgx ⊢
  have x0 : w3.cell? ⟨gx, 0, none⟩ = some (.string nm) := (blk_cell hx3 0).trans rfl
  have x1 : w3.cell? ⟨gx, 1, none⟩ = some (.slice A5 ns.length c5) := (blk_cell hx3 1).trans rfl
  have z0 : w3.cell? ⟨gz, 0, none⟩ = some (.string ⟨#[]⟩) := (blk_cell hz3 0).trans rfl
  have z1 : w3.cell? ⟨gz, 1, none⟩ = some (.slice none 0 0) := (blk_cell hz3 1).trans rfl
  have f0 := blk_frozen hz3 0
  have f1 := blk_frozen hz3 1
  have HZ3 := Aside0.mk hz3
  have HR3 := Aside0.mk hr3
  have HK3 := Aside0.mk hk3
  have HF3 := Aside0.mk hf3
  have HL3 := Aside0.mk hl3
  clear hz3 hx3 hr3 hk3 hf3 hl3
  go_wp2_with (go_at_call 86; go_loud ((with_reducible refine (must_ok _).mono ?_); rintro e w'' ⟨rfl, rfl⟩))
  refine bodyPost_ret (results_single Try.results85 (.cell gz 27 #[.string nm, .slice A5 ns.length c5] (0, 0) _ rfl (by refine blk_put (cs := #[.string nm, .slice none 0 0]) ?_ 1 _ rfl; refine blk_put (cs := #[.string ⟨#[]⟩, .slice none 0 0]) ?_ 0 _ rfl; exact HZ3.out) hu2 rfl (by kernel_rfl) .nil)) rfl ?_
  refine ⟨A5, c5, rfl, HL3.out, ?_, ?_, ?_⟩
  · exact Kd.F_mono (Kd.F_step (Kd.F_step HF3.out (fun k hk _ => Below.heap_setCell _ _ _ _ (by simp; omega))) (fun k hk _ => Below.heap_setCell _ _ _ _ (by simp; omega))) (fun k hk => by omega)
  · have hge : w0.heap.size ≤ gz := by omega
    exact (HR3.out.move (by rw [Below.heap_setCell _ _ _ _ (by simp; omega), Below.heap_setCell _ _ _ _ (by simp; omega)]) (below_set (below_set HR3.out.hb hge) hge))
  · exact keep_far (keep_far HK3.out hzb _) hzb _
set_option maxHeartbeats 8000000 in
set_option maxRecDepth 100000 in
theorem flow_kind (l : List V) (g : Nat) (w0 w : World) (h : RS w0 w g l) (hb : ∀ x t, l = x :: t → x.f0 ≠ 2) :
    Calls Try.prog 85 #[.pointer (some ⟨g, 0, none⟩)] w fun e w' => e = .panicked [fault 4] ∧ Below w0.heap.size w0 w' ∧ KeepBut w w' g none := by
  have hu2 := Try.underlying27
  have HK1 := Aside0.mk (show KeepBut w (w.alloc (.cells #[.string ⟨#[]⟩, .slice none 0 0] 27)) g none from keep_alloc (KeepBut.refl w g none) _)
  have HN := Aside0.mk (next_bad l 2 g w0 (w.alloc (.cells #[.string ⟨#[]⟩, .slice none 0 0] 27)) (h.alloc _) hb)
  clear h hb
  go_enter Try.func85, Try.ntmps85
  go_wp2_with (go_at_call 84; go_loud ((with_reducible refine HN.out.mono ?_); rintro e w1 ⟨rfl, hb, hk⟩; have HB := Aside0.mk hb; have HK := Aside0.mk hk; clear hb hk))
  exact ⟨rfl, rfl, HB.out, keep_trans HK1.out HK.out⟩
set_option maxHeartbeats 8000000 in
set_option maxRecDepth 100000 in
theorem flow_bad (K : Nat) (x : V) (t : List V) (g : Nat) (w0 w : World) (h : RS w0 w g (x :: t)) (hk : x.f0 = 2) (nm : ByteArray) (ns : List A_) (er : Int) (hF : graph_Read.f K x.f0 x.f1 x.f2 x.f3 = some (nm, ns, er)) (he : er ≠ 0) :
    Calls Try.prog 85 #[.pointer (some ⟨g, 0, none⟩)] w fun e w' => e = .panicked [fault 4] ∧ Below w0.heap.size w0 w' ∧ KeepBut w w' g none := by
  have hu := Try.underlying54
  have hu2 := Try.underlying27
  have HF := Aside0.mk hF
  have HK1 := Aside0.mk (show KeepBut w (w.alloc (.cells #[.string ⟨#[]⟩, .slice none 0 0] 27)) g none from keep_alloc (KeepBut.refl w g none) _)
  have HN := Aside0.mk (next_two x t g w0 (w.alloc (.cells #[.string ⟨#[]⟩, .slice none 0 0] 27)) (h.alloc _) hk)
  have he' : (er == 0) = false := beq_eq_false_iff_ne.2 he
  clear h hk hF he
  go_enter Try.func85, Try.ntmps85
  go_upto_region 2 with (first | (go_at_call 84; go_loud ((with_reducible refine HN.out.mono ?_); rintro e w1 ⟨A3, c3, rfl, l3, g3, hr, hk⟩; have HR := Aside0.mk hr; have HK := Aside0.mk hk; have HC := Aside0.mk (Kd.C_below g3 hr.hb); have HL := Aside0.mk l3; clear hr hk g3 l3)) | (go_at_call 22; go_loud ((with_reducible refine (graph_Read.calls K x.f0 x.f1 x.f2 A3 c3 x.f3 nm ns er _ HC.out HL.out HF.out).mono ?_); rintro e w2 ⟨v1, rfl, hs, hb⟩; obtain ⟨A5, c5, e5⟩ := Kd.N_slice (Kd.S_N hs); subst e5; have HS := Aside0.mk hs; have HB := Aside0.mk hb; clear hs hb)))
  go_wp2_with (go_at_call 86; go_loud ((with_reducible refine (must_bad _).mono ?_); rintro e w'' ⟨rfl, rfl⟩))
  exact ⟨rfl, rfl, below_alloc (HR.out.go HB.out).hb _, keep_alloc (keep_trans HK1.out (keep_trans HK.out (KeepBut.of_below HB.out g none))) _⟩
end Go.Proofs.Ytjicfkmpgogppaa.Or
