/-
  OpAsks, walked.
-/
import Derived.Test.YtjicfkmpgogppaaH0
import Derived.Test.YtjicfkmpgogppaaH1
import Derived.Test.YtjicfkmpgogppaaH5
import Derived.Test.YtjicfkmpgogppaaAnW
import Derived.Test.YtjicfkmpgogppaaAkW
import Derived.Test.YtjicfkmpgogppaaWkH
namespace Go.Proofs.Ytjicfkmpgogppaa.Ok
set_option linter.unusedVariables false
set_option linter.unusedSimpArgs false
open Go Go.RowKit Go.Proofs.Ytjicfkmpgogppaa.Plain Go.Proofs.Ytjicfkmpgogppaa.Vs Go.Proofs.Ytjicfkmpgogppaa.Sh Go.Proofs.Ytjicfkmpgogppaa.PA Go.Proofs.YtjicfkmpgogppaaW.PrintWords Go.Proofs.YtjicfkmpgogppaaW.PrintLast Go.Proofs.YtjicfkmpgogppaaW.PrintMore
open Go.Proofs.Ytjicfkmpgogppaa.Gv (A_ E0 numV)
open Go.Proofs.Ytjicfkmpgogppaa.Or (AskT)
open Go.Proofs.Ytjicfkmpgogppaa.Ap (kA argsV NodesOk)
attribute [local go_sem] max2_int min2_int max_two min_two max_three min_three max_four min_four   -- for this text's walks alone
abbrev kN := k121
/-- a number of 32 bits -/
def sm (n : Int) : Int := wrap32 n
theorem sm_inr (n : Int) : Or.inr (sm n) = true := by
  refine decide_eq_true ?_
  unfold sm wrap32
  omega
def smN (x : S121) : S121 := ⟨x.f0, x.f1, sm x.f2, x.f3, sm x.f4, x.f5⟩
theorem smN_take (l : List S121) (i : Nat) (hi : i < l.length) : ((l.take i).map smN ++ l.drop i).set i (smN l[i]) = (l.take (i + 1)).map smN ++ l.drop (i + 1) := by
  have h1 : ((l.take i).map smN).length = i := by rw [List.length_map, List.length_take]; omega
  rw [List.set_append_right _ _ (by omega), h1, Nat.sub_self, List.drop_eq_getElem_cons hi, List.set_cons_zero, List.take_succ_eq_append_getElem hi, List.map_append, List.append_assoc]
  rfl
theorem far_ {w0 w : World} {L : List Blk} {g i : Nat} (h : St w0 w L) (hg : w0.heap.size ≤ g) (hn : ∀ x ∈ L, x.1 ≠ g) (v : Value) : St w0 (w.setCell ⟨g, i, none⟩ v) L := ⟨below_set h.hb hg, fun x m => ⟨blk_far (h.bl x m).1 (hn x m) v, (h.bl x m).2⟩, h.so⟩
abbrev cN (x : S121) (A : Option Addr) (c : Nat) : List Value := [.string x.f0, .slice A x.f1.length c, .int .i64 x.f2, .int .i64 x.f3, .int .i64 x.f4, .string x.f5]
theorem el_ {W : World} {base g n cap : Nat} {ok : Nat → Prop} {xs : List S121} (h : Kd.N kN 121 W base ok (.slice (some ⟨g, 0, none⟩) n cap) xs) (i : Nat) (x : S121) (hi : xs[i]? = some x) :
    ∃ A c, x.f1.length ≤ c ∧ Kd.F Kd.string W (fun k => ok k ∧ k ≠ g) A x.f1.length x.f1 ∧ (∀ j u, (cN x A c)[j]? = some u → W.cell? ⟨g, i * 6 + j, none⟩ = some u) ∧ ∀ j, W.frozen? ⟨g, i * 6 + j, none⟩ = false := by
  have hn := (Kd.N_reads' h).1
  have hl := (List.getElem?_eq_some_iff.1 hi).1
  obtain ⟨c, hc, hF, hcc, hq⟩ := Kd.N_elem h z121 (i : Int) (by omega) (by omega)
  rw [Int.toNat_natCast] at hF hcc hq
  rw [show xs.getD i z121 = x by rw [List.getD_eq_getElem?_getD, hi]; rfl] at hF
  obtain ⟨A, cc, rfl, hle, hs⟩ := k121_openF hF
  exact ⟨A, cc, hle, hs, hcc, hq⟩
theorem put_ {W : World} {base g n cap : Nat} {ok : Nat → Prop} {xs : List S121} (h : Kd.N kN 121 W base ok (.slice (some ⟨g, 0, none⟩) n cap) xs) (i : Nat) (x x' : S121) (hi : xs[i]? = some x) (j : Nat) (v : Value) (hj : j + 1 ≤ 6)
    (hM : ∀ A c, x.f1.length ≤ c → Kd.F Kd.string W (fun k => ok k ∧ k ≠ g) A x.f1.length x.f1 → Kd.FK kN W (fun k => ok k ∧ k ≠ g) x' ((cN x A c).take j ++ [v] ++ (cN x A c).drop (j + 1))) :
    Kd.N kN 121 (W.setCell ⟨g, i * 6 + j, none⟩ v) base ok (.slice (some ⟨g, 0, none⟩) n cap) (xs.set i x') := by
  have hn := (Kd.N_reads' h).1
  have hl := (List.getElem?_eq_some_iff.1 hi).1
  obtain ⟨A, c, hle, hs, hcc, hq⟩ := el_ h i x hi
  have := (Kd.N_seg h (i : Int) (by omega) (by omega) (c := cN x A c) (seg := [v]) (j := j) (okp := fun k => ok k ∧ k ≠ g) (x' := x') rfl (by rw [Int.toNat_natCast]; exact hcc) hj (hM A c hle hs) (fun _ hk => hk)).1
  rw [Int.toNat_natCast] at this
  exact this
theorem mix_get (l : List S121) (i : Nat) (hi : i < l.length) : ((l.take i).map smN ++ l.drop i)[i]? = some l[i] := by
  have h1 : ((l.take i).map smN).length = i := by rw [List.length_map, List.length_take]; omega
  rw [List.getElem?_append_right (by omega), h1, Nat.sub_self, List.drop_eq_getElem_cons hi]
  rfl
theorem mix_len (l : List S121) (i : Nat) (hi : i ≤ l.length) : ((l.take i).map smN ++ l.drop i).length = l.length := by
  rw [List.length_append, List.length_map, List.length_take, List.length_drop]; omega
theorem mix_two {W : World} {base g n cap : Nat} {ok : Nat → Prop} {l : List S121} {i : Nat} (hi : i < l.length) (h : Kd.N kN 121 W base ok (.slice (some ⟨g, 0, none⟩) n cap) ((l.take i).map smN ++ l.drop i)) :
    Kd.N kN 121 ((W.setCell ⟨g, i * 6 + 2, none⟩ (.int .i64 (sm l[i].f2))).setCell ⟨g, i * 6 + 4, none⟩ (.int .i64 (sm l[i].f4))) base ok (.slice (some ⟨g, 0, none⟩) n cap) ((l.take (i + 1)).map smN ++ l.drop (i + 1)) := by
  have h1 := put_ h i l[i] ⟨l[i].f0, l[i].f1, sm l[i].f2, l[i].f3, l[i].f4, l[i].f5⟩ (mix_get l i hi) 2 (.int .i64 (sm l[i].f2)) (by omega) (fun A c hle hs => k121_mkF W _ ⟨l[i].f0, l[i].f1, sm l[i].f2, l[i].f3, l[i].f4, l[i].f5⟩ hle hs)
  have h2 := put_ h1 i ⟨l[i].f0, l[i].f1, sm l[i].f2, l[i].f3, l[i].f4, l[i].f5⟩ (smN l[i]) (by rw [List.getElem?_set_self (by rw [mix_len l i (by omega)]; exact hi)]) 4 (.int .i64 (sm l[i].f4)) (by omega) (fun A c hle hs => k121_mkF _ _ (smN l[i]) hle hs)
  rw [List.set_set, smN_take l i hi] at h2
  exact h2
abbrev ArN (o run node tri : Int) (ok : Bool) (per rol til cal : Int) (nm fn : ByteArray) (l : List A_) (al : List V) : Prop := ∀ (A : Option Addr) (c : Nat) (w : World), Kd.C kA w A l.length l → l.length ≤ c → Calls Try.prog 42 #[.agg #[.int .i64 o, .int .i64 run, .int .i64 node, .int .i64 tri, .bool ok, .int .i64 per, .int .i64 rol, .int .i64 til, .int .i64 cal, .string nm, .string fn, .slice A l.length c]] w (An.Post w al)
abbrev RdV (q : Int) (vl : List V) (o run node tri : Int) (ok : Bool) (per rol til cal : Int) (nm fn : ByteArray) (l : List A_) (er : Int) : Prop := ∀ (A : Option Addr) (c : Nat) (w : World), Kd.C k54 w A vl.length vl → vl.length ≤ c → Calls Try.prog 44 #[.int .i64 q, .slice A vl.length c] w fun e w' => ∃ A1 c1, e = .returned (.tuple #[.agg #[.int .i64 o, .int .i64 run, .int .i64 node, .int .i64 tri, .bool ok, .int .i64 per, .int .i64 rol, .int .i64 til, .int .i64 cal, .string nm, .string fn, .slice A1 l.length c1], .int .i64 er]) ∧ l.length ≤ c1 ∧ Kd.F kA w' (fun k => w.heap.size ≤ k) A1 l.length l ∧ Bl w w'
abbrev RdZ (q : Int) (vl : List V) (er : Int) : Prop := ∀ (A : Option Addr) (c : Nat) (w : World), Kd.C k54 w A vl.length vl → vl.length ≤ c → Calls Try.prog 44 #[.int .i64 q, .slice A vl.length c] w fun e w' => ∃ A1 c1, e = .returned (.tuple #[.agg #[.int .i64 0, .int .i64 0, .int .i64 0, .int .i64 0, .bool false, .int .i64 0, .int .i64 0, .int .i64 0, .int .i64 0, .string E0, .string E0, .slice A1 0 c1], .int .i64 er]) ∧ Bl w w'
theorem rdZ {q : Int} {vl : List V} {er : Int} (h : RdV q vl (Or.zA 0).op (Or.zA 0).run (Or.zA 0).node (Or.zA 0).tries (Or.zA 0).okf (Or.zA 0).person (Or.zA 0).role (Or.zA 0).till (Or.zA 0).caller (Or.zA 0).name (Or.zA 0).fname (Or.zA 0).nodes er) : RdZ q vl er := fun A c w hC hc => (h A c w hC hc).mono (by
  rintro e w' ⟨A1, c1, rfl, _, _, hb⟩
  exact ⟨A1, c1, rfl, hb⟩)
theorem args_N (a : AskT) (h : NodesOk a) : ArN a.op a.run a.node a.tries a.okf a.person a.role a.till a.caller a.name a.fname a.nodes (argsV a) := fun A c w hC hc => by
  obtain ⟨K, hK⟩ := Ap.value_ok a h
  clear h
  obtain ⟨o, run, node, tri, ok, per, rol, til, cal, nm, fn, l⟩ := a
  simp only at hC hc hK
  show Calls _ _ #[.agg #[.int .i64 o, .int .i64 run, .int .i64 node, .int .i64 tri, .bool ok, .int .i64 per, .int .i64 rol, .int .i64 til, .int .i64 cal, .string nm, .string fn, .slice A l.length c]] w _
  by_cases h0 : o = 0
  · subst h0; exact An.args_0 run node tri ok per rol til cal nm fn A c l w
  by_cases h2 : o = 2
  · subst h2
    cases ok
    · exact An.args_2f run node tri per rol til cal nm fn A c l w
    · exact An.args_2t run node tri per rol til cal nm fn A c l w
  by_cases h3 : o = 3
  · subst h3; exact An.args_3 run node tri ok per rol til cal nm fn A c l w
  by_cases h4 : o = 4
  · subst h4; exact An.args_4 run node tri ok per rol til cal nm fn A c l w hC hc K hK
  by_cases h5 : o = 5
  · subst h5; exact An.args_5 run node tri ok per rol til cal nm fn A c l w
  by_cases h6 : o = 6
  · subst h6; exact An.args_6 run node tri ok per rol til cal nm fn A c l w
  by_cases h8 : o = 8
  · subst h8; exact An.args_8 run node tri ok per rol til cal nm fn A c l w
  by_cases h9 : o = 9
  · subst h9; exact An.args_9 run node tri ok per rol til cal nm fn A c l w
  have e : argsV ⟨o, run, node, tri, ok, per, rol, til, cal, nm, fn, l⟩ = [] := by
    unfold argsV
    simp only [h0, h2, h3, h4, h5, h6, h8, h9, if_false, or_self]
  rw [e]
  exact An.args_n run node tri ok per rol til cal nm fn A c l w o ⟨h0, h2, h3, h4, h5, h6, h8, h9⟩
theorem args_len (a : AskT) : (argsV a).length ≤ 4 := by
  unfold argsV
  repeat' split
  all_goals simp
theorem eqA (l : List V) (A B : Option Addr) (c d : Nat) (w : World) (h1 : Kd.C k54 w A l.length l) (h2 : l.length ≤ c) (h3 : Kd.C k54 w B l.length l) (h4 : l.length ≤ d) : Calls Try.prog 27 #[.agg #[.int .i64 2, .int .i64 0, .string E0, .slice A l.length c], .agg #[.int .i64 2, .int .i64 0, .string E0, .slice B l.length d]] w fun e w' => e = .returned (.bool true) ∧ Bl w w' := by
  have h := Eq.equal_calls (Gv.allV l) (Gv.allV l) A B c d w ⟨h1, h2⟩ ⟨h3, h4⟩
  rw [Ap.eqV_refl] at h
  exact h
theorem rdV (o : Int) (l : List V) (hs : ∀ x ∈ l, Small x) (a : AskT) (er : Int) (ha : Ap.resA o l = a) (he : Ap.errA o l = er) : RdV o l a.op a.run a.node a.tries a.okf a.person a.role a.till a.caller a.name a.fname a.nodes er := by
  subst ha; subst he
  exact fun A c w hC hc => Ap.read_V o l A c w hC hc hs
theorem nodes_ok (l : List Fw.T) (o run node tri : Int) (ok : Bool) (per rol til cal : Int) (nm fn : ByteArray) : NodesOk ⟨o, run, node, tri, ok, per, rol, til, cal, nm, fn, (l.take 20).map Fw.toA⟩ := by
  refine ⟨by simp only [List.length_map, List.length_take]; omega, fun x hx => ?_⟩
  obtain ⟨y, _, rfl⟩ := List.mem_map.1 hx
  show (y.f1.take 20).length ≤ 1000
  rw [List.length_take]; omega
theorem fits (l : List S121) (p run node tri : Int) (ok : Bool) (per rol til cal : Int) (nm fn : ByteArray) (h : 0 ≤ p ∧ p < 10) : Ap.Fits ⟨p, run, sm node, sm tri, ok, sm per, sm rol, til, sm cal, nm, fn, ((l.map smN).take 20).map Fw.toA⟩ := by
  refine ⟨h, sm_inr _, sm_inr _, sm_inr _, sm_inr _, sm_inr _, List.all_eq_true.2 fun x hx => ?_⟩
  obtain ⟨y, hy, rfl⟩ := List.mem_map.1 hx
  obtain ⟨z, _, rfl⟩ := List.mem_map.1 (List.mem_of_mem_take hy)
  show (Or.inr (sm z.f2) && Or.inr (sm z.f4)) = true
  rw [sm_inr, sm_inr]; rfl
set_option maxHeartbeats 400000 in
set_option maxRecDepth 100000 in
theorem small_walk (n : Int) (w : World) : Calls Try.prog 47 #[.int .i64 n] w fun e w' => e = .returned (.int .i64 (sm n)) ∧ w = w' := by
  go_enter Try.func47, Try.ntmps47
  go_wp2
  rw [show sm n = wrap64 (wrap32 n) by unfold sm wrap64 wrap32; omega]
  exact bodyPost_ret (results_tmp Try.results47 _ _ _) rfl ⟨rfl, rfl⟩
/-- a call of a function that a variable holds -/
theorem goesv_ {P : Program} {ops : Array Oper} {Q : Exit → Act → World → Prop} {oi : Oper} {N : Option Tmp} {a : Act} {w : World} {K : Act → World → Prop} {f : FuncId} {fn : Func} {t : Tmp} {xs_ : Array Operand} {ts : Array TypeId} (hf : P.funcs[f]? = some fn) (hname : (fn.name == "runtime.NumGoroutine") = false) (hb : fn.body.isSome = true) (args : Array Value)
    (hw : Region.wanted oi (yielded ops a.tmps) = true) (hN : oi.dst = N) (hop : oi.op = .call { callee := .value (.tmp t), args := xs_, argTypes := ts }) (hv : a.eval (.tmp t) = .func (.func f) #[] #[]) (hargs : xs_.map a.eval = args)
    (h : Calls P f args w fun e w' => ∃ v, e = .returned v ∧ K (a.put N v) w') : if Region.wanted oi (yielded ops a.tmps) = true then Oper.wp P oi a w K Q else K (a.put N undef) w := by
  refine call_ f args hw hN ?_ h
  have he := enters_ hf hname hb args w
  unfold execOp
  simp [hop, resolve, hv, Deferred.ofValue, invoke, hargs, he]
set_option maxHeartbeats 8000000 in
set_option maxRecDepth 100000 in
theorem asks_walk (o run node tri : Int) (ok : Bool) (per rol til cal : Int) (nm fn : ByteArray) (A : Option Addr) (c : Nat) (l : List S121) (w : World) (hC : Kd.C kN w A l.length l) (hc : l.length ≤ c) (hbig : l.length * 80 ≤ 140737488351232) :
    Calls Try.prog 13 #[.agg #[.int .i64 o, .int .i64 run, .int .i64 node, .int .i64 tri, .bool ok, .int .i64 per, .int .i64 rol, .int .i64 til, .int .i64 cal, .string nm, .string fn, .slice A l.length c]] w fun e w' => e = .returned (.bool true) ∧ Bl w w' := by
  have hu1 := Try.underlying104
  have hu2 := Try.underlying107
  have hu3 := Try.underlying109
  have hu4 := Try.underlying54
  have hu5 := Try.underlying102
  have hu6 := Try.underlying121
  obtain ⟨m, hm⟩ : ∃ m : Int, (if 0 < o then o else 0) = m := ⟨_, rfl⟩
  have hm0 : 0 ≤ m := by rw [← hm]; split <;> omega
  obtain ⟨p, hp⟩ : ∃ p : Int, Int.tmod m 10 = p := ⟨_, rfl⟩
  have HP := Aside0.mk (show 0 ≤ p ∧ p < 10 by rw [← hp, Int.tmod_eq_emod_of_nonneg hm0]; omega)
  have HF := Aside0.mk (Kd.C_F k121_heap hC)
  have HBIG := Aside0.mk hbig
  clear hC hc hbig hm0
  have H := (St.start w).alloc #[.int .i64 o, .int .i64 run, .int .i64 node, .int .i64 tri, .bool ok, .int .i64 per, .int .i64 rol, .int .i64 til, .int .i64 cal, .string nm, .string fn, .slice A l.length c] 104
  go_enter Try.func13, Try.ntmps13
  go_upto_region 1 with fail
  replace HF := Aside0.mk (Kd.F_alloc HF.out (.cells #[.int .i64 o, .int .i64 run, .int .i64 node, .int .i64 tri, .bool ok, .int .i64 per, .int .i64 rol, .int .i64 til, .int .i64 cal, .string nm, .string fn, .slice A l.length c] 104))
  generalize w.alloc (.cells #[.int .i64 o, .int .i64 run, .int .i64 node, .int .i64 tri, .bool ok, .int .i64 per, .int .i64 rol, .int .i64 til, .int .i64 cal, .string nm, .string fn, .slice A l.length c] 104) = w1 at H HF ⊢
  obtain ⟨g1, hg1⟩ : ∃ g, w.heap.size = g := ⟨_, rfl⟩
  rw [hg1] at H HF ⊢
  have HG1 := Aside0.mk hg1
  clear hg1
  have cc := H.c 0 rfl
  have qq := H.q 0 rfl
  go_upto_region 3 with fail
  replace H := H.set 0 0 (.int .i64 p) rfl (L' := [(g1, #[.int .i64 p, .int .i64 run, .int .i64 node, .int .i64 tri, .bool ok, .int .i64 per, .int .i64 rol, .int .i64 til, .int .i64 cal, .string nm, .string fn, .slice A l.length c], 104)]) rfl
  replace HF := Aside0.mk (Kd.F_far (p := ⟨g1, 0, none⟩) HF.out (fun k hk => Nat.ne_of_lt hk) (.int .i64 p))
  clear cc qq hm hp
  generalize w1.setCell ⟨g1, 0, none⟩ (.int .i64 p) = w2 at H HF ⊢

  have H := H.drew
  replace HF := Aside0.mk (Kd.F_drew HF.out)
  have cc := H.c 0 rfl
  have qq := H.q 0 rfl
  have hS : (fun w' => w'.cell? ⟨g1, 2, none⟩ = some (.int .i64 node) ∧ w'.cell? ⟨g1, 3, none⟩ = some (.int .i64 tri) ∧ w'.cell? ⟨g1, 5, none⟩ = some (.int .i64 per) ∧ w'.cell? ⟨g1, 6, none⟩ = some (.int .i64 rol) ∧ w'.cell? ⟨g1, 8, none⟩ = some (.int .i64 cal)) w2.drew := ⟨(cc 2).trans rfl, (cc 3).trans rfl, (cc 5).trans rfl, (cc 6).trans rfl, (cc 8).trans rfl⟩
  refine start_ (n := 30) (ds := [21, 23, 25, 27, 29]) (S := fun w' => w'.cell? ⟨g1, 2, none⟩ = some (.int .i64 node) ∧ w'.cell? ⟨g1, 3, none⟩ = some (.int .i64 tri) ∧ w'.cell? ⟨g1, 5, none⟩ = some (.int .i64 per) ∧ w'.cell? ⟨g1, 6, none⟩ = some (.int .i64 rol) ∧ w'.cell? ⟨g1, 8, none⟩ = some (.int .i64 cal)) #[false, false, false, false, false, false, false, false, false, false, false, false, false, false, false, false, false, false, false, false, false, false, false, false, false, false, false, false, false, false] (by kernel_rfl) rfl rfl hS (fun hHeld => ?_)
  clear hS
  generalize w2.drew = w3 at H HF cc qq hHeld ⊢
  refine Rg.pu 0 (some 19) ?_
  refine Rg.pu 1 (some 20) ?_
  refine Rg.tk 2 (some 21) hHeld ?_
  refine Rg.pu 4 (some 23) ?_
  refine Rg.pu 5 (some 24) ?_
  refine Rg.tk 6 (some 25) hHeld ?_
  refine Rg.pu 8 (some 27) ?_
  refine Rg.pu 9 (some 28) ?_
  refine Rg.tk 10 (some 29) hHeld ?_
  refine Rg.pu 12 (some 31) ?_
  refine Rg.pu 13 (some 32) ?_
  refine Rg.tk 14 (some 33) hHeld ?_
  refine Rg.pu 16 (some 35) ?_
  refine Rg.pu 17 (some 36) ?_
  refine Rg.tk 18 (some 37) hHeld ?_
  refine one_ (i := 3) (N := some 22) #[true, true, true, true, true, true, true, false, true, true, true, false, true, true, true, false, true, true, true, false, false, false, false, false, false, false, false, false, false, false] rfl rfl (by kernel_rfl) (by simp) (fun K hK => ?_)
  refine goesv_ Try.func47 (by kernel_rfl) rfl #[.int .i64 node] (by rfl) rfl rfl (by rfl) (by first | rfl | (simp only [List.map_toArray, List.map_cons, List.map_nil]; rfl)) ?_
  refine (small_walk node _).mono ?_
  rintro e_ w_ ⟨rfl, rfl⟩
  refine ⟨_, rfl, ?_⟩
  refine hK.out _ _ hHeld (fun hHeld => ?_)
  clear hK K
  (try simp only [Act.put, List.setIfInBounds_toArray, List.set_cons_zero, List.set_cons_succ])
  refine Rg.pu 20 (some 39) ?_
  refine one_ (i := 7) (N := some 26) #[true, true, true, true, true, true, true, true, true, true, true, false, true, true, true, false, true, true, true, false, true, false, false, false, false, false, false, false, false, false] rfl rfl (by kernel_rfl) (by simp) (fun K hK => ?_)
  refine goesv_ Try.func47 (by kernel_rfl) rfl #[.int .i64 tri] (by rfl) rfl rfl (by rfl) (by first | rfl | (simp only [List.map_toArray, List.map_cons, List.map_nil]; rfl)) ?_
  refine (small_walk tri _).mono ?_
  rintro e_ w_ ⟨rfl, rfl⟩
  refine ⟨_, rfl, ?_⟩
  refine hK.out _ _ hHeld (fun hHeld => ?_)
  clear hK K
  (try simp only [Act.put, List.setIfInBounds_toArray, List.set_cons_zero, List.set_cons_succ])
  refine one_ (i := 11) (N := some 30) #[true, true, true, true, true, true, true, true, true, true, true, true, true, true, true, false, true, true, true, false, true, false, false, false, false, false, false, false, false, false] rfl rfl (by kernel_rfl) (by simp) (fun K hK => ?_)
  refine goesv_ Try.func47 (by kernel_rfl) rfl #[.int .i64 per] (by rfl) rfl rfl (by rfl) (by first | rfl | (simp only [List.map_toArray, List.map_cons, List.map_nil]; rfl)) ?_
  refine (small_walk per _).mono ?_
  rintro e_ w_ ⟨rfl, rfl⟩
  refine ⟨_, rfl, ?_⟩
  refine hK.out _ _ hHeld (fun hHeld => ?_)
  clear hK K
  (try simp only [Act.put, List.setIfInBounds_toArray, List.set_cons_zero, List.set_cons_succ])
  refine one_ (i := 15) (N := some 34) #[true, true, true, true, true, true, true, true, true, true, true, true, true, true, true, true, true, true, true, false, true, false, false, false, false, false, false, false, false, false] rfl rfl (by kernel_rfl) (by simp) (fun K hK => ?_)
  refine goesv_ Try.func47 (by kernel_rfl) rfl #[.int .i64 rol] (by rfl) rfl rfl (by rfl) (by first | rfl | (simp only [List.map_toArray, List.map_cons, List.map_nil]; rfl)) ?_
  refine (small_walk rol _).mono ?_
  rintro e_ w_ ⟨rfl, rfl⟩
  refine ⟨_, rfl, ?_⟩
  refine hK.out _ _ hHeld (fun hHeld => ?_)
  clear hK K
  (try simp only [Act.put, List.setIfInBounds_toArray, List.set_cons_zero, List.set_cons_succ])
  refine one_ (i := 19) (N := some 38) #[true, true, true, true, true, true, true, true, true, true, true, true, true, true, true, true, true, true, true, true, true, false, false, false, false, false, false, false, false, false] rfl rfl (by kernel_rfl) (by simp) (fun K hK => ?_)
  refine goesv_ Try.func47 (by kernel_rfl) rfl #[.int .i64 cal] (by rfl) rfl rfl (by rfl) (by first | rfl | (simp only [List.map_toArray, List.map_cons, List.map_nil]; rfl)) ?_
  refine (small_walk cal _).mono ?_
  rintro e_ w_ ⟨rfl, rfl⟩
  refine ⟨_, rfl, ?_⟩
  refine hK.out _ _ hHeld (fun hHeld => ?_)
  clear hK K
  (try simp only [Act.put, List.setIfInBounds_toArray, List.set_cons_zero, List.set_cons_succ])
  refine last_ (i := 21) (N := none) #[true, true, true, true, true, true, true, true, true, true, true, true, true, true, true, true, true, true, true, true, true, true, false, false, false, false, false, false, false, false] rfl rfl (by kernel_rfl) (by simp) (fun K hK => ?_)
  refine skip_ (w1 := w3.setCell ⟨g1, 2, none⟩ (.int .i64 (sm node))) (by rfl) rfl ?_ ?_
  · have cc := H.c 0 rfl
    have qq := H.q 0 rfl
    go_simp
  refine hK.out _ _ ?_
  clear hK K
  replace H := H.set 0 2 (.int .i64 (sm node)) rfl (L' := [(g1, #[.int .i64 p, .int .i64 run, .int .i64 (sm node), .int .i64 tri, .bool ok, .int .i64 per, .int .i64 rol, .int .i64 til, .int .i64 cal, .string nm, .string fn, .slice A l.length c], 104)]) rfl
  replace HF := Aside0.mk (Kd.F_far (p := ⟨g1, 2, none⟩) HF.out (fun k hk => Nat.ne_of_lt hk) (.int .i64 (sm node)))
  generalize w3.setCell ⟨g1, 2, none⟩ (.int .i64 (sm node)) = w4 at H HF ⊢
  refine Rg.pu 22 (some 40) ?_
  refine last_ (i := 23) (N := none) #[true, true, true, true, true, true, true, true, true, true, true, true, true, true, true, true, true, true, true, true, true, true, true, true, false, false, false, false, false, false] rfl rfl (by kernel_rfl) (by simp) (fun K hK => ?_)
  refine skip_ (w1 := w4.setCell ⟨g1, 3, none⟩ (.int .i64 (sm tri))) (by rfl) rfl ?_ ?_
  · have cc := H.c 0 rfl
    have qq := H.q 0 rfl
    go_simp
  refine hK.out _ _ ?_
  clear hK K
  replace H := H.set 0 3 (.int .i64 (sm tri)) rfl (L' := [(g1, #[.int .i64 p, .int .i64 run, .int .i64 (sm node), .int .i64 (sm tri), .bool ok, .int .i64 per, .int .i64 rol, .int .i64 til, .int .i64 cal, .string nm, .string fn, .slice A l.length c], 104)]) rfl
  replace HF := Aside0.mk (Kd.F_far (p := ⟨g1, 3, none⟩) HF.out (fun k hk => Nat.ne_of_lt hk) (.int .i64 (sm tri)))
  generalize w4.setCell ⟨g1, 3, none⟩ (.int .i64 (sm tri)) = w5 at H HF ⊢
  refine Rg.pu 24 (some 41) ?_
  refine last_ (i := 25) (N := none) #[true, true, true, true, true, true, true, true, true, true, true, true, true, true, true, true, true, true, true, true, true, true, true, true, true, true, false, false, false, false] rfl rfl (by kernel_rfl) (by simp) (fun K hK => ?_)
  refine skip_ (w1 := w5.setCell ⟨g1, 5, none⟩ (.int .i64 (sm per))) (by rfl) rfl ?_ ?_
  · have cc := H.c 0 rfl
    have qq := H.q 0 rfl
    go_simp
  refine hK.out _ _ ?_
  clear hK K
  replace H := H.set 0 5 (.int .i64 (sm per)) rfl (L' := [(g1, #[.int .i64 p, .int .i64 run, .int .i64 (sm node), .int .i64 (sm tri), .bool ok, .int .i64 (sm per), .int .i64 rol, .int .i64 til, .int .i64 cal, .string nm, .string fn, .slice A l.length c], 104)]) rfl
  replace HF := Aside0.mk (Kd.F_far (p := ⟨g1, 5, none⟩) HF.out (fun k hk => Nat.ne_of_lt hk) (.int .i64 (sm per)))
  generalize w5.setCell ⟨g1, 5, none⟩ (.int .i64 (sm per)) = w6 at H HF ⊢
  refine Rg.pu 26 (some 42) ?_
  refine last_ (i := 27) (N := none) #[true, true, true, true, true, true, true, true, true, true, true, true, true, true, true, true, true, true, true, true, true, true, true, true, true, true, true, true, false, false] rfl rfl (by kernel_rfl) (by simp) (fun K hK => ?_)
  refine skip_ (w1 := w6.setCell ⟨g1, 6, none⟩ (.int .i64 (sm rol))) (by rfl) rfl ?_ ?_
  · have cc := H.c 0 rfl
    have qq := H.q 0 rfl
    go_simp
  refine hK.out _ _ ?_
  clear hK K
  replace H := H.set 0 6 (.int .i64 (sm rol)) rfl (L' := [(g1, #[.int .i64 p, .int .i64 run, .int .i64 (sm node), .int .i64 (sm tri), .bool ok, .int .i64 (sm per), .int .i64 (sm rol), .int .i64 til, .int .i64 cal, .string nm, .string fn, .slice A l.length c], 104)]) rfl
  replace HF := Aside0.mk (Kd.F_far (p := ⟨g1, 6, none⟩) HF.out (fun k hk => Nat.ne_of_lt hk) (.int .i64 (sm rol)))
  generalize w6.setCell ⟨g1, 6, none⟩ (.int .i64 (sm rol)) = w7 at H HF ⊢
  refine Rg.pu 28 (some 43) ?_
  refine last_ (i := 29) (N := none) #[true, true, true, true, true, true, true, true, true, true, true, true, true, true, true, true, true, true, true, true, true, true, true, true, true, true, true, true, true, true] rfl rfl (by kernel_rfl) (by simp) (fun K hK => ?_)
  refine skip_ (w1 := w7.setCell ⟨g1, 8, none⟩ (.int .i64 (sm cal))) (by rfl) rfl ?_ ?_
  · have cc := H.c 0 rfl
    have qq := H.q 0 rfl
    go_simp
  refine hK.out _ _ ?_
  clear hK K
  replace H := H.set 0 8 (.int .i64 (sm cal)) rfl (L' := [(g1, #[.int .i64 p, .int .i64 run, .int .i64 (sm node), .int .i64 (sm tri), .bool ok, .int .i64 (sm per), .int .i64 (sm rol), .int .i64 til, .int .i64 (sm cal), .string nm, .string fn, .slice A l.length c], 104)]) rfl
  replace HF := Aside0.mk (Kd.F_far (p := ⟨g1, 8, none⟩) HF.out (fun k hk => Nat.ne_of_lt hk) (.int .i64 (sm cal)))
  generalize w7.setCell ⟨g1, 8, none⟩ (.int .i64 (sm cal)) = w8 at H HF ⊢
  refine done_ (by kernel_rfl) ?_
  clear cc qq hHeld
  have cc := H.c 0 rfl
  have qq := H.q 0 rfl
  have HFR := Aside0.mk (show ∀ k, w8.heap.size ≤ k → k ≠ g1 from fun k hk => by have := H.lt 0 rfl; omega)
  have HBB := Aside0.mk H.hb
  have HL0 := Aside0.mk (show (([] : List S121).length + l.length) * 80 ≤ 140737488355328 by have := HBIG.out; simp only [List.length_nil]; omega)
  have H8 := Aside0.mk H
  clear H
  go_upto_region 5 with ((with_reducible refine gate_builtin (b := .append) (xs := #[.const (.slice none 0 0), .tmp 46]) rfl ?_); at_builtin; refine Kd.N_append_rows k121 (w0 := w) w.heap.size rfl (.const (.slice none 0 0)) (.tmp 46) 100 121 (.agg #[(.string ⟨#[]⟩), (.slice none 0 0), (.int .i64 0), (.int .i64 0), (.int .i64 0), (.string ⟨#[]⟩)]) 80 rfl Try.underlying100 (by kernel_rfl) rfl (by decide) (by omega) (.slice none 0 0) [] l A l.length c (fun k => k ≠ g1) (fun k => k < g1) rfl rfl (Kd.N_nil _ _ _ _ _) HF.out (fun k hk => ⟨Nat.ne_of_lt hk, by simp [Value.ownBlock]⟩) HFR.out HBB.out HBB.out.size HL0.out ?_; intro v1 w9 hN hb hg hat; rw [List.nil_append] at hN; obtain ⟨A1, c1, rfl⟩ := Kd.N_slice hN; have H9 := H8.out.grown hb hg (by simp [Value.ownBlock]); have cc9 := H9.c 0 rfl; have qq9 := H9.q 0 rfl; have hN9 := Aside0.mk hN; have hat9 := Aside0.mk (show ∀ k, (Value.slice A1 l.length c1).ownBlock = some k → g1 < k from fun k hk => by have := H8.out.lt 0 rfl; rcases hat with h | ⟨b, hb, hle⟩; exact absurd (hk.symm.trans h) (by simp [Value.ownBlock]); have := Option.some.inj (hk.symm.trans hb); omega); clear hN hb hg hat)
  have H := H9.set 0 11 (.slice A1 l.length c1) rfl (L' := [(g1, #[.int .i64 p, .int .i64 run, .int .i64 (sm node), .int .i64 (sm tri), .bool ok, .int .i64 (sm per), .int .i64 (sm rol), .int .i64 til, .int .i64 (sm cal), .string nm, .string fn, .slice A1 l.length c1], 104)]) rfl
  have HN := Aside0.mk (Kd.N_far hN9.out (p := ⟨g1, 11, none⟩) (fun k hk => hk) (.slice A1 l.length c1))
  clear H8 H9 cc qq cc9 qq9 hN9 HFR HBB HL0
  generalize w9.setCell ⟨g1, 11, none⟩ (.slice A1 l.length c1) = w10 at H HN ⊢
  have cc := H.c 0 rfl
  have qq := H.q 0 rfl
  have HE := Aside0.mk H
  have HIS := Aside0.mk (show ∀ k, some k = (Value.slice A1 l.length c1).ownBlock → g1 < k from fun k hk => hat9.out k hk.symm)
  clear H hat9
  go_wp2
  go_loopw [54] (fun v54 wr => ∃ (i : Nat), v54 = .int .i64 (i : Int) ∧ i ≤ l.length ∧ Aside0 (St w wr [(g1, #[.int .i64 p, .int .i64 run, .int .i64 (sm node), .int .i64 (sm tri), .bool ok, .int .i64 (sm per), .int .i64 (sm rol), .int .i64 til, .int .i64 (sm cal), .string nm, .string fn, .slice A1 l.length c1], 104)]) ∧ Aside0 (Kd.N k121 121 wr w.heap.size (fun k => k ≠ g1) (.slice A1 l.length c1) ((l.take i).map smN ++ l.drop i))) (fun v54 _ => l.length - (intOf v54).toNat)
  case atStart => exact ⟨0, rfl, Nat.zero_le _, HE, HN⟩
  case round =>
    clear HE HN cc qq
    obtain ⟨i, rfl, hi, HE, HN⟩ := hrel
    have hbig : l.length ≤ 9223372036854775807 := by have := HBIG.out; omega
    by_cases hlt : i < l.length
    · have hli : (i : Int) < (l.length : Int) := by omega
      have hi0 : (0 : Int) ≤ (i : Int) := by omega
      have HI := Aside0.mk hlt
      have hf := Kd.N_form HN.out (by rw [mix_len l i hi]; omega)
      obtain ⟨gr, cap, he, hgr, hgl, _⟩ := hf
      injection he with he1 he2 he3
      clear he2 he3
      subst he1
      have HGR := Aside0.mk (show w.heap.size ≤ gr ∧ g1 < gr from ⟨hgr, HIS.out gr rfl⟩)
      obtain ⟨Ae, ce, _, _, hcc, hqq⟩ := el_ HN.out i l[i] (mix_get l i hlt)
      have x2 := hcc 2 _ rfl
      have x4 := hcc 4 _ rfl
      have q2 := hqq 2
      have q4 := hqq 4
      clear hgr hgl hcc hqq
      have cc := HE.out.c 0 rfl
      generalize hm2 : l[i].f2 = m2 at x2
      generalize hm4 : l[i].f4 = m4 at x4
      have HM := Aside0.mk (And.intro hm2 hm4)
      clear hm2 hm4
      go_upto_region 8 with fail
      replace HE := Aside0.mk HE.out.drew
      replace HN := Aside0.mk (Kd.N_drew HN.out)
      have hS : (fun w' => w'.cell? ⟨g1, 11, none⟩ = some (.slice (some ⟨gr, 0, none⟩) l.length c1) ∧ w'.cell? ⟨gr, i * 6 + 4, none⟩ = some (.int .i64 m4)) wr.drew := ⟨(cc 11).trans rfl, x4⟩
      replace x2 : wr.drew.cell? ⟨gr, i * 6 + 2, none⟩ = some (.int .i64 m2) := x2
      replace x4 : wr.drew.cell? ⟨gr, i * 6 + 4, none⟩ = some (.int .i64 m4) := x4
      replace q2 : wr.drew.frozen? ⟨gr, i * 6 + 2, none⟩ = false := q2
      replace q4 : wr.drew.frozen? ⟨gr, i * 6 + 4, none⟩ = false := q4
      refine start_ (n := 32) (ds := [31]) (S := fun w' => w'.cell? ⟨g1, 11, none⟩ = some (.slice (some ⟨gr, 0, none⟩) l.length c1) ∧ w'.cell? ⟨gr, i * 6 + 4, none⟩ = some (.int .i64 m4)) #[false, false, false, false, false, false, false, false, false, false, false, false, false, false, false, false, false, false, false, false, false, false, false, false, false, false, false, false, false, false, false, false] (by kernel_rfl) rfl rfl hS (fun hHeld => ?_)
      clear hS cc
      generalize wr.drew = wd at HE HN hHeld x2 x4 q2 q4 ⊢
      refine Rg.pu 0 (some 57) ?_
      refine Rg.pu 1 (some 58) ?_
      refine Rg.tk 2 (some 59) hHeld ?_
      refine Rg.pu 3 (some 60) ?_
      refine Rg.pu 4 (some 61) ?_
      refine Rg.pu 5 (some 62) ?_
      refine Rg.tk 6 (some 63) hHeld ?_
      refine Rg.pu 7 (some 64) ?_
      refine Rg.pu 8 (some 65) ?_
      refine Rg.pu 9 (some 66) ?_
      refine Rg.pu 10 (some 67) ?_
      refine Rg.tk 11 (some 68) hHeld ?_
      refine Rg.pu 12 (some 69) ?_
      refine Rg.pu 13 (some 70) ?_
      refine Rg.pu 14 (some 71) ?_
      refine Rg.pu 17 (some 74) ?_
      refine Rg.pu 18 (some 75) ?_
      refine Rg.pu 19 (some 76) ?_
      refine Rg.tk 20 (some 77) hHeld ?_
      refine Rg.pu 21 (some 78) ?_
      refine Rg.pu 22 (some 79) ?_
      refine Rg.pu 23 (some 80) ?_
      refine Rg.tk 24 (some 81) hHeld ?_
      refine one_ (i := 15) (N := some 72) #[true, true, true, true, true, true, true, true, true, true, true, true, true, true, true, true, false, true, true, true, true, true, true, true, true, false, false, false, false, false, false, false] rfl rfl (by kernel_rfl) (by simp) (fun K hK => ?_)
      refine value_ (v := .int .i64 m2) (w1 := wd) (by rfl) rfl ?_ ?_
      · first | (go_simp; done) | (go_simp; with_reducible rfl)
      refine hK.out _ _ hHeld (fun hHeld => ?_)
      clear hK K
      (try simp only [Act.put, List.setIfInBounds_toArray, List.set_cons_zero, List.set_cons_succ])
      refine one_ (i := 16) (N := some 73) #[true, true, true, true, true, true, true, true, true, true, true, true, true, true, true, true, true, true, true, true, true, true, true, true, true, false, false, false, false, false, false, false] rfl rfl (by kernel_rfl) (by simp) (fun K hK => ?_)
      refine goesv_ Try.func47 (by kernel_rfl) rfl #[.int .i64 m2] (by rfl) rfl rfl (by rfl) (by first | rfl | (simp only [List.map_toArray, List.map_cons, List.map_nil]; rfl)) ?_
      refine (small_walk m2 _).mono ?_
      rintro e_ w_ ⟨rfl, rfl⟩
      refine ⟨_, rfl, ?_⟩
      refine hK.out _ _ hHeld (fun hHeld => ?_)
      clear hK K
      (try simp only [Act.put, List.setIfInBounds_toArray, List.set_cons_zero, List.set_cons_succ])
      refine one_ (i := 25) (N := some 82) #[true, true, true, true, true, true, true, true, true, true, true, true, true, true, true, true, true, true, true, true, true, true, true, true, true, true, false, false, false, false, false, false] rfl rfl (by kernel_rfl) (by simp) (fun K hK => ?_)
      refine goesv_ Try.func47 (by kernel_rfl) rfl #[.int .i64 m4] (by rfl) rfl rfl (by rfl) (by first | rfl | (simp only [List.map_toArray, List.map_cons, List.map_nil]; rfl)) ?_
      refine (small_walk m4 _).mono ?_
      rintro e_ w_ ⟨rfl, rfl⟩
      refine ⟨_, rfl, ?_⟩
      refine hK.out _ _ hHeld (fun hHeld => ?_)
      clear hK K
      (try simp only [Act.put, List.setIfInBounds_toArray, List.set_cons_zero, List.set_cons_succ])
      refine Rg.pu 26 (some 83) ?_
      refine Rg.pu 27 (some 84) ?_
      refine one_ (i := 28) (N := none) #[true, true, true, true, true, true, true, true, true, true, true, true, true, true, true, true, true, true, true, true, true, true, true, true, true, true, true, true, true, false, false, false] rfl rfl (by kernel_rfl) (by simp) (fun K hK => ?_)
      refine skip_ (w1 := wd.setCell ⟨gr, i * 6 + 2, none⟩ (.int .i64 (sm m2))) (by rfl) rfl ?_ ?_
      · first | (go_simp; done) | (go_simp; with_reducible rfl)
      have y4 : (wd.setCell ⟨gr, i * 6 + 2, none⟩ (.int .i64 (sm m2))).cell? ⟨gr, i * 6 + 4, none⟩ = some (.int .i64 m4) := (World.cell?_setCell_other _ _ _ _ (by simp)).trans x4
      refine hK.out _ _ ⟨(World.cell?_setCell_other _ _ _ _ (by have := HGR.out.2; simp <;> omega)).trans hHeld.1, y4⟩ (fun hHeld2 => ?_)
      clear hK K hHeld2
      refine Rg.pu 29 (some 85) ?_
      refine Rg.pu 30 (some 86) ?_
      refine last_ (i := 31) (N := none) #[true, true, true, true, true, true, true, true, true, true, true, true, true, true, true, true, true, true, true, true, true, true, true, true, true, true, true, true, true, true, true, true] rfl rfl (by kernel_rfl) (by simp) (fun K hK => ?_)
      refine skip_ (w1 := (wd.setCell ⟨gr, i * 6 + 2, none⟩ (.int .i64 (sm m2))).setCell ⟨gr, i * 6 + 4, none⟩ (.int .i64 (sm m4))) (by rfl) rfl ?_ ?_
      · skip
        first | (go_simp; done) | (go_simp; with_reducible rfl)
      refine hK.out _ _ ?_
      clear hK K
      refine done_ (by kernel_rfl) ?_
      have hne : ∀ x ∈ ([(g1, #[.int .i64 p, .int .i64 run, .int .i64 (sm node), .int .i64 (sm tri), .bool ok, .int .i64 (sm per), .int .i64 (sm rol), .int .i64 til, .int .i64 (sm cal), .string nm, .string fn, .slice (some ⟨gr, 0, none⟩) l.length c1], 104)] : List Blk), x.1 ≠ gr := fun x hx => by have := HGR.out.2; simp only [List.mem_singleton] at hx; rw [hx]; exact Nat.ne_of_lt this
      have HE2 := Aside0.mk (far_ (i := i * 6 + 4) (far_ (i := i * 6 + 2) HE.out HGR.out.1 hne (.int .i64 (sm m2))) HGR.out.1 hne (.int .i64 (sm m4)))
      have hN2 := mix_two HI.out HN.out
      rw [HM.out.1, HM.out.2] at hN2
      have HN2 := Aside0.mk hN2
      clear hN2 hne y4 x2 x4 q2 q4 hHeld
      go_wp2
      go_roundw
      case rel => exact ⟨i + 1, by go_num, by have := HI.out; omega, HE2, HN2⟩
      case measure => simp [intOf]; have := HI.out; omega
    · obtain rfl : i = l.length := by omega
      have hge : ¬ ((l.length : Int) < (l.length : Int)) := by omega
      rw [List.take_length, List.drop_length, List.append_nil] at HN
      clear hi hlt hge HIS hbig
      have HNR := Aside0.mk (Kd.N_reads' HN.out)
      have hl' : (l.map smN).length = l.length := List.length_map ..
      have hfit := fits l p run node tri ok per rol til cal nm fn HP.out
      have hok := nodes_ok (l.map smN) p run (sm node) (sm tri) ok (sm per) (sm rol) til (sm cal) nm fn
      have HAK := Aside0.mk (fun w' A c (h : Kd.C kN w' A (l.map smN).length (l.map smN)) hc => Ak.asks_walk p run (sm node) (sm tri) ok (sm per) (sm rol) til (sm cal) nm fn A c (l.map smN) w' h hc)
      have has := Ap.args_small _ hok
      have HA1 := Aside0.mk (args_N _ hok)
      have hra := Ap.read_args _ hfit
      have HR1 := Aside0.mk (rdV p (argsV _) has (Ap.keep _) 0 (by unfold Ap.resA; rw [hra]; rfl) (by unfold Ap.errA; rw [hra]; rfl))
      have HA2 := Aside0.mk (args_N _ (Ap.keep_ok _ hok))
      have hko := Ap.keep_op ⟨p, run, sm node, sm tri, ok, sm per, sm rol, til, sm cal, nm, fn, ((l.map smN).take 20).map Fw.toA⟩
      rw [Ap.args_keep _ hfit] at HA2
      have hmn := Ap.more_none _ hfit
      have hfn := Ap.fewer_none _ hfit
      have HR2 := Aside0.mk (rdV p (argsV _ ++ [numV 0]) (fun x hx => by rcases List.mem_append.1 hx with hx | hx; exact has x hx; rw [List.mem_singleton.1 hx]; exact Ap.small_num _) (Or.zA 0) 4 (by unfold Ap.resA; rw [hmn]; rfl) (by unfold Ap.errA; rw [hmn]; rfl))
      have HR3 := Aside0.mk (fun h0 => rdV p ((argsV _).take ((argsV _).length - 1)) (fun x hx => has x (List.mem_of_mem_take hx)) (Or.zA 0) 4 (by unfold Ap.resA; rw [hfn h0]; rfl) (by unfold Ap.errA; rw [hfn h0]; rfl))
      clear hra hmn hfn hfit hok
      simp only at HA1 hko
      have HLN := Aside0.mk (args_len ⟨p, run, sm node, sm tri, ok, sm per, sm rol, til, sm cal, nm, fn, ((l.map smN).take 20).map Fw.toA⟩)
      generalize hal : argsV _ = al at HA1 HR1 HA2 HR2 HR3 has HLN
      generalize hk : Ap.keep _ = kp at hko HR1 HA2
      obtain ⟨k0, k1, k2, k3, k4, k5, k6, k7, k8, k9, k10, nk⟩ := kp
      simp only at hko HR1 HA2
      subst hko
      clear hk hal hl'
      rw [List.length_map] at HNR HAK
      generalize ((l.map smN).take 20).map Fw.toA = na at HAK HA1
      generalize ((l.map smN).take 20).map Fw.toB = nb at HAK
      generalize l.map smN = lm at HN HNR HAK
      have HK := Aside0.mk (HAK.out wr A1 c1 HNR.out.2.2 HNR.out.2.1)
      replace H := HE.out
      clear HE HAK HN HNR
      have cc := H.c 0 rfl
      go_upto_region 11 with (go_at_call 41; go_loud ((with_reducible refine HK.out.mono ?_); rintro e wq ⟨A2, c2, A3, c3, rfl, l2, l3, hFa, hFb, hq⟩; have HL2 := Aside0.mk l2; have HFa := Aside0.mk (Kd.F_mono (ok' := fun k => k < wq.heap.size) (Kd.F_bound hFa) (fun k hk => hk.2)); have H := H.go hq; clear hFa hFb l2 l3 hq))
      clear cc HK
      replace H := (H.allocN #[.int .i64 k0, .int .i64 run, .int .i64 (sm node), .int .i64 (sm tri), .bool ok, .int .i64 (sm per), .int .i64 (sm rol), .int .i64 til, .int .i64 (sm cal), .string nm, .string fn, .slice A2 na.length c2] 107 wq.heap.size rfl).allocN #[.int .i64 k0, .int .i64 run, .int .i64 (sm node), .int .i64 (sm tri), .bool ok, .int .i64 (sm per), .int .i64 (sm rol), .int .i64 til, .int .i64 (sm cal), .string nm, .string fn, .slice A3 nb.length c3] 109 (wq.heap.size + 1) (by simp only [new_size])
      replace HFa := Aside0.mk (Kd.F_alloc (Kd.F_alloc HFa.out (.cells #[.int .i64 k0, .int .i64 run, .int .i64 (sm node), .int .i64 (sm tri), .bool ok, .int .i64 (sm per), .int .i64 (sm rol), .int .i64 til, .int .i64 (sm cal), .string nm, .string fn, .slice A2 na.length c2] 107)) (.cells #[.int .i64 k0, .int .i64 run, .int .i64 (sm node), .int .i64 (sm tri), .bool ok, .int .i64 (sm per), .int .i64 (sm rol), .int .i64 til, .int .i64 (sm cal), .string nm, .string fn, .slice A3 nb.length c3] 109))
      generalize (wq.alloc (.cells #[.int .i64 k0, .int .i64 run, .int .i64 (sm node), .int .i64 (sm tri), .bool ok, .int .i64 (sm per), .int .i64 (sm rol), .int .i64 til, .int .i64 (sm cal), .string nm, .string fn, .slice A2 na.length c2] 107)).alloc (.cells #[.int .i64 k0, .int .i64 run, .int .i64 (sm node), .int .i64 (sm tri), .bool ok, .int .i64 (sm per), .int .i64 (sm rol), .int .i64 til, .int .i64 (sm cal), .string nm, .string fn, .slice A3 nb.length c3] 109) = v1 at H HFa ⊢
      obtain ⟨g2, hg2⟩ : ∃ g, wq.heap.size = g := ⟨_, rfl⟩
      obtain ⟨g3, hg3⟩ : ∃ g, g2 + 1 = g := ⟨_, rfl⟩
      rw [hg2, hg3] at H ⊢
      rw [hg2] at HFa
      clear hg2 hg3
      replace H := H.sub (L' := [(g2, #[.int .i64 k0, .int .i64 run, .int .i64 (sm node), .int .i64 (sm tri), .bool ok, .int .i64 (sm per), .int .i64 (sm rol), .int .i64 til, .int .i64 (sm cal), .string nm, .string fn, .slice A2 na.length c2], 107)]) (List.Sublist.cons _ (List.Sublist.cons_cons _ (List.nil_sublist _)))
      have cc := H.c 0 rfl
      have HLT := Aside0.mk (H.lt 0 rfl)
      have HK := Aside0.mk (HA1.out A2 c2 v1 (Kd.F_now HFa.out) HL2.out)
      go_upto_region 12 with (go_at_call 42; go_loud ((with_reducible refine HK.out.mono ?_); rintro e wq ⟨A7, rfl, hN, hq⟩; have HN := Aside0.mk hN; have H := H.go hq; have cc := H.c 0 rfl; clear hN hq))
      clear HK HFa cc
      obtain ⟨b0, hb0⟩ : ∃ b, v1.heap.size = b := ⟨_, rfl⟩
      rw [hb0] at HN
      have HB0 := Aside0.mk (show g2 < b0 by rw [← hb0]; exact HLT.out)
      clear hb0
      have cc := H.c 0 rfl
      have HK := Aside0.mk (HR1.out A7 al.length wq (Kd.F_now (Kd.N_F HN.out)) (Nat.le_refl _))
      go_upto_region 13 with (go_at_call 44; go_loud ((with_reducible refine HK.out.mono ?_); rintro e wr ⟨A8, c8, rfl, l8, hF, hq⟩; have HL8 := Aside0.mk l8; have HFa := Aside0.mk (Kd.F_mono (ok' := fun k => k < wr.heap.size) (Kd.F_bound hF) (fun k hk => hk.2)); replace HN := Aside0.mk (Kd.N_below HN.out hq); have H := H.go hq; clear l8 hF hq))
      clear HK cc HR1
      replace H := H.allocN #[.int .i64 k0, .int .i64 k1, .int .i64 k2, .int .i64 k3, .bool k4, .int .i64 k5, .int .i64 k6, .int .i64 k7, .int .i64 k8, .string k9, .string k10, .slice A8 nk.length c8] 107 wr.heap.size rfl
      replace HFa := Aside0.mk (Kd.F_alloc HFa.out (.cells #[.int .i64 k0, .int .i64 k1, .int .i64 k2, .int .i64 k3, .bool k4, .int .i64 k5, .int .i64 k6, .int .i64 k7, .int .i64 k8, .string k9, .string k10, .slice A8 nk.length c8] 107))
      replace HN := Aside0.mk (Kd.N_alloc HN.out (.cells #[.int .i64 k0, .int .i64 k1, .int .i64 k2, .int .i64 k3, .bool k4, .int .i64 k5, .int .i64 k6, .int .i64 k7, .int .i64 k8, .string k9, .string k10, .slice A8 nk.length c8] 107))
      generalize wr.alloc (.cells #[.int .i64 k0, .int .i64 k1, .int .i64 k2, .int .i64 k3, .bool k4, .int .i64 k5, .int .i64 k6, .int .i64 k7, .int .i64 k8, .string k9, .string k10, .slice A8 nk.length c8] 107) = v2 at H HFa HN ⊢
      obtain ⟨g4, hg4⟩ : ∃ g, wr.heap.size = g := ⟨_, rfl⟩
      rw [hg4] at H HFa ⊢
      clear hg4
      have ee : (k0 != k0) = false := bne_self_eq_false _
      have cc4 := H.c 0 rfl
      have cc2 := H.c 1 rfl
      have HLM := Aside0.mk (show al.length ≤ 1000000 by have := HLN.out; omega)
      go_upto_region 15 with (first
        | (go_at_call 31; go_loud ((with_reducible refine (Wh.wakes1 _).mono ?_); rintro e wq ⟨rfl, hq⟩; have H := H.go hq; have cc4 := H.c 0 rfl; have cc2 := H.c 1 rfl; have HN := Aside0.mk (Kd.N_below HN.out hq); have HFa := Aside0.mk (Kd.F_below HFa.out hq); clear hq))
        | (go_at_call 42; go_loud ((with_reducible refine (HA2.out A8 c8 _ (Kd.F_now HFa.out) HL8.out).mono ?_); rintro e wq ⟨A9, rfl, hN, hq⟩; have H := H.go hq; have HG := Aside0.mk (Kd.F_mono (ok' := fun _ => True) (Kd.N_F hN) (fun _ _ => trivial)); have HN := Aside0.mk (Kd.N_below HN.out hq); clear hN hq))
        | (go_at_call 40; go_loud ((with_reducible refine (Wh.all1 al HLM.out A9 al.length (Nat.le_refl _) _ _ HG.out).mono ?_); rintro e wq ⟨B1, d1, rfl, h1, hF1, hq⟩; have H := H.go hq; have HD1 := Aside0.mk h1; have HF1 := Aside0.mk hF1; have HN := Aside0.mk (Kd.N_below HN.out hq); clear h1 hF1 hq))
        | (go_at_call 40; go_loud ((with_reducible refine (Wh.all1 al HLM.out A7 al.length (Nat.le_refl _) _ _ (Kd.N_F HN.out)).mono ?_); rintro e wq ⟨B2, d2, rfl, h2, hF2, hq⟩; have H := H.go hq; have HD2 := Aside0.mk h2; have HF2 := Aside0.mk hF2; have HF1 := Aside0.mk (Kd.F_below HF1.out hq); have HN := Aside0.mk (Kd.N_below HN.out hq); clear h2 hF2 hq))
        | (go_at_call 27; go_loud ((with_reducible refine (eqA al B1 B2 d1 d2 _ (Kd.F_now HF1.out) HD1.out (Kd.F_now HF2.out) HD2.out).mono ?_); rintro e wq ⟨rfl, hq⟩; have H := H.go hq; have HN := Aside0.mk (Kd.N_below HN.out hq); clear hq)))
      clear HD1 HF1 HD2 HF2 HG HFa cc4 cc2 ee HL8 HLM
      replace H := H.sub (L' := [(g2, #[.int .i64 k0, .int .i64 run, .int .i64 (sm node), .int .i64 (sm tri), .bool ok, .int .i64 (sm per), .int .i64 (sm rol), .int .i64 til, .int .i64 (sm cal), .string nm, .string fn, .slice A2 na.length c2], 107)]) (List.Sublist.cons _ (List.Sublist.cons_cons _ (List.nil_sublist _)))
      have HF7 := Aside0.mk (Kd.F_mono (ok' := fun _ => True) (Kd.N_F HN.out) (fun _ _ => trivial))
      clear HN
      have HR2 := Aside0.mk (rdZ HR2.out)
      have HR4 := Aside0.mk (fun h0 => rdZ (HR3.out h0))
      clear HR3
      have HL5 := Aside0.mk (show (al.length + 1) * 56 ≤ 140737488355328 by have := HLN.out; omega)
      have hn0 : (0 : Int) ≤ (al.length : Int) := Int.natCast_nonneg _
      have hn1 : (al.length : Int) ≤ (al.length : Int) := Int.le_refl _
      replace H := H.drew
      replace HF7 := Aside0.mk (Kd.F_drew HF7.out)
      refine start_ (n := 18) (ds := [16]) (S := fun w' => w'.cell? ⟨g2, 0, none⟩ = some (.int .i64 k0)) #[false, false, false, false, false, false, false, false, false, false, false, false, false, false, false, false, false, false] (by kernel_rfl) rfl rfl ((H.c 0 rfl 0).trans rfl) (fun hHeld => ?_)
      generalize wq.drew = y0 at H HF7 hHeld ⊢
      refine Rg.pu 0 (some 125) ?_
      refine Rg.tk 1 (some 126) hHeld ?_
      refine Rg.pu 2 (some 127) ?_
      refine Rg.pu 3 (some 128) ?_
      refine Rg.pu 4 (some 129) ?_
      refine Rg.pu 5 (some 130) ?_
      refine Rg.pu 6 (some 131) ?_
      refine Rg.pu 7 (some 132) ?_
      refine join_ (σ := Nat × Nat × Option Addr × Nat × Option Addr × Nat) 2 #[true, true, true, true, true, true, true, true, true, true, true, true, true, true, true, true, false, false] (fun s => [(133, .agg #[.int .i64 0, .int .i64 0, .string E0, .slice none 0 0]), (134, .slice (some ⟨s.2.1, 0, none⟩) 1 1), (135, .slice s.2.2.1 (al ++ [numV 0]).length s.2.2.2.1), (136, .tuple #[(.agg #[.int .i64 0, .int .i64 0, .int .i64 0, .int .i64 0, .bool false, .int .i64 0, .int .i64 0, .int .i64 0, .int .i64 0, .string E0, .string E0, .slice s.2.2.2.2.1 0 s.2.2.2.2.2]), .int .i64 4]), (124, .tuple #[(.agg #[.int .i64 0, .int .i64 0, .int .i64 0, .int .i64 0, .bool false, .int .i64 0, .int .i64 0, .int .i64 0, .int .i64 0, .string E0, .string E0, .slice s.2.2.2.2.1 0 s.2.2.2.2.2]), .int .i64 4]), (137, (.agg #[.int .i64 0, .int .i64 0, .int .i64 0, .int .i64 0, .bool false, .int .i64 0, .int .i64 0, .int .i64 0, .int .i64 0, .string E0, .string E0, .slice s.2.2.2.2.1 0 s.2.2.2.2.2])), (138, .int .i64 4), (10, .pointer (some ⟨s.1, 0, none⟩))]) (fun s w' => St w w' [(s.1, #[.int .i64 0, .int .i64 0, .int .i64 0, .int .i64 0, .bool false, .int .i64 0, .int .i64 0, .int .i64 0, .int .i64 0, .string E0, .string E0, .slice none 0 0], 107), (g2, #[.int .i64 k0, .int .i64 run, .int .i64 (sm node), .int .i64 (sm tri), .bool ok, .int .i64 (sm per), .int .i64 (sm rol), .int .i64 til, .int .i64 (sm cal), .string nm, .string fn, .slice A2 na.length c2], 107)] ∧ Kd.F k54 w' (fun k => k ≠ s.1) A7 al.length al) ?_ (fun hcont => ?_)
      rotate_left
      · skip
        refine two_ (i := 8) (j := 15) (Ni := some 133) (Nj := some 10) #[true, true, true, true, true, true, true, true, true, false, false, false, false, false, false, false, false, false] #[true, true, true, true, true, true, true, true, false, false, false, false, false, false, false, true, false, false] rfl rfl rfl rfl (by kernel_rfl) (by simp) (by simp) (fun K hK => ?_) (fun K hK => ?_)
        · skip
          refine goes_ Try.func48 (by kernel_rfl) rfl #[.int .i64 0] (by rfl) rfl rfl (by first | rfl | (simp only [List.map_toArray, List.map_cons, List.map_nil]; done) | (simp only [List.map_toArray, List.map_cons, List.map_nil]; rfl)) ?_
          refine (An.num0 0 _).mono ?_
          rintro e_ y1 ⟨rfl, hq⟩
          refine ⟨_, rfl, ?_⟩
          replace H := H.go hq
          replace HF7 := Aside0.mk (Kd.F_below HF7.out hq)
          clear hq
          refine hK.out _ _ ((H.c 0 rfl 0).trans rfl) (fun hHeld => ?_)
          clear hK K
          refine norm_ (a' := ?_) ?_ ?_
          rotate_left
          · show Act.put _ (some 133) _ = _
            simp only [Act.put, List.setIfInBounds_toArray, List.set_cons_zero, List.set_cons_succ, i64_w, i32_w]
            rfl
          refine two_ (i := 9) (j := 15) (Ni := some 134) (Nj := some 10) #[true, true, true, true, true, true, true, true, true, true, false, false, false, false, false, false, false, false] #[true, true, true, true, true, true, true, true, true, false, false, false, false, false, false, true, false, false] rfl rfl rfl rfl (by kernel_rfl) (by simp) (by simp) (fun K hK => ?_) (fun K hK => ?_)
          · skip
            refine value_ (w1 := y1.alloc (.cells #[.int .i64 0, .int .i64 0, .string E0, .slice none 0 0] 54)) (v := .slice (some ⟨y1.heap.size, 0, none⟩) 1 1) (by rfl) rfl ?_ ?_
            · first | (go_simp; done) | (go_simp; with_reducible rfl)
            have HBX := Aside0.mk (An.foot_flat (W1 := y1.alloc (.cells #[.int .i64 0, .int .i64 0, .string E0, .slice none 0 0] 54)) (g := y1.heap.size) (fun _ => True) trivial [numV 0] (by intro x hx; rw [List.mem_singleton.1 hx]; rfl) (by decide) (blk_new y1 _))
            replace H := H.go (Bl.alloc (Bl.refl _) (.cells #[.int .i64 0, .int .i64 0, .string E0, .slice none 0 0] 54))
            replace HF7 := Aside0.mk (Kd.F_alloc HF7.out (.cells #[.int .i64 0, .int .i64 0, .string E0, .slice none 0 0] 54))
            obtain ⟨gB, hgB⟩ : ∃ g, y1.heap.size = g := ⟨_, rfl⟩
            generalize y1.alloc (.cells #[.int .i64 0, .int .i64 0, .string E0, .slice none 0 0] 54) = y2 at H HF7 HBX ⊢
            rw [hgB] at HBX ⊢
            clear hgB
            refine hK.out _ _ ((H.c 0 rfl 0).trans rfl) (fun hHeld => ?_)
            clear hK K
            refine norm_ (a' := ?_) ?_ ?_
            rotate_left
            · show Act.put _ (some 134) _ = _
              simp only [Act.put, List.setIfInBounds_toArray, List.set_cons_zero, List.set_cons_succ, i64_w, i32_w]
              rfl
            refine two_ (i := 10) (j := 15) (Ni := some 135) (Nj := some 10) #[true, true, true, true, true, true, true, true, true, true, true, false, false, false, false, false, false, false] #[true, true, true, true, true, true, true, true, true, true, false, false, false, false, false, true, false, false] rfl rfl rfl rfl (by kernel_rfl) (by simp) (by simp) (fun K hK => ?_) (fun K hK => ?_)
            · skip
              refine Kd.append_full_step k54 (by rfl) (.tmp 132) (.tmp 134) 52 54 (.agg #[(.int .i64 0), (.int .i64 0), (.string ⟨#[]⟩), (.slice none 0 0)]) 56 rfl Try.underlying52 (by kernel_rfl) rfl (by decide) (by omega) A7 al [numV 0] (some ⟨gB, 0, none⟩) 1 1 (fun _ => True) (fun _ => True) rfl rfl (by omega) (Kd.F_mono HF7.out (fun _ _ => trivial)) HBX.out (fun _ _ => trivial) (fun _ _ => trivial) HL5.out ?_
              intro v5 y3 hN5 hg5
              obtain ⟨A5, c5, rfl⟩ := Kd.N_slice hN5
              have HL55 := Aside0.mk (Kd.N_reads' hN5).2.1
              have HF5 := Aside0.mk (Kd.N_F hN5)
              replace H := H.grown (H.hb.grown hg5 H.hb.size (fun _ h => by cases h)) hg5 (fun _ _ => by simp)
              replace HF7 := Aside0.mk (Kd.F_grown HF7.out hg5 (fun _ _ => by simp))
              clear hN5 hg5 HBX
              refine hK.out _ _ ((H.c 0 rfl 0).trans rfl) (fun hHeld => ?_)
              clear hK K
              refine norm_ (a' := ?_) ?_ ?_
              rotate_left
              · show Act.put _ (some 135) _ = _
                simp only [Act.put, List.setIfInBounds_toArray, List.set_cons_zero, List.set_cons_succ, i64_w, i32_w]
                rfl
              refine two_ (i := 11) (j := 15) (Ni := some 136) (Nj := some 10) #[true, true, true, true, true, true, true, true, true, true, true, true, false, false, false, false, false, false] #[true, true, true, true, true, true, true, true, true, true, true, false, false, false, false, true, false, false] rfl rfl rfl rfl (by kernel_rfl) (by simp) (by simp) (fun K hK => ?_) (fun K hK => ?_)
              · skip
                refine goes_ Try.func44 (by kernel_rfl) rfl #[.int .i64 k0, .slice A5 (al ++ [numV 0]).length c5] (by rfl) rfl rfl (by first | rfl | (simp only [List.map_toArray, List.map_cons, List.map_nil]; done) | (simp only [List.map_toArray, List.map_cons, List.map_nil]; rfl)) ?_
                refine (HR2.out A5 c5 _ (Kd.F_now HF5.out) HL55.out).mono ?_
                rintro e_ y4 ⟨A6, c6, rfl, hq⟩
                refine ⟨_, rfl, ?_⟩
                replace H := H.go hq
                replace HF7 := Aside0.mk (Kd.F_below HF7.out hq)
                clear hq HF5
                refine hK.out _ _ ((H.c 0 rfl 0).trans rfl) (fun hHeld => ?_)
                clear hK K
                refine norm_ (a' := ?_) ?_ ?_
                rotate_left
                · show Act.put _ (some 136) _ = _
                  simp only [Act.put, List.setIfInBounds_toArray, List.set_cons_zero, List.set_cons_succ, i64_w, i32_w]
                  rfl
                refine Rg.pu 12 (some 124) ?_
                refine Rg.pu 13 (some 137) ?_
                refine Rg.pu 14 (some 138) ?_
                refine one_ (i := 15) (N := some 10) #[true, true, true, true, true, true, true, true, true, true, true, true, true, true, true, true, false, false] rfl rfl (by kernel_rfl) (by simp) (fun K hK => ?_)
                refine value_ (w1 := y4.alloc (.cells #[.int .i64 0, .int .i64 0, .int .i64 0, .int .i64 0, .bool false, .int .i64 0, .int .i64 0, .int .i64 0, .int .i64 0, .string E0, .string E0, .slice none 0 0] 107)) (v := .pointer (some ⟨y4.heap.size, 0, none⟩)) (by rfl) rfl ?_ ?_
                · first | (go_simp; done) | (go_simp; with_reducible rfl)
                replace H := H.alloc #[.int .i64 0, .int .i64 0, .int .i64 0, .int .i64 0, .bool false, .int .i64 0, .int .i64 0, .int .i64 0, .int .i64 0, .string E0, .string E0, .slice none 0 0] 107
                replace HF7 := Aside0.mk (Kd.F_mono (ok' := fun k => k ≠ y4.heap.size) (Kd.F_alloc (Kd.F_bound HF7.out) (.cells #[.int .i64 0, .int .i64 0, .int .i64 0, .int .i64 0, .bool false, .int .i64 0, .int .i64 0, .int .i64 0, .int .i64 0, .string E0, .string E0, .slice none 0 0] 107)) (fun k hk => Nat.ne_of_lt hk.2))
                obtain ⟨gA, hgA⟩ : ∃ g, y4.heap.size = g := ⟨_, rfl⟩
                generalize y4.alloc (.cells #[.int .i64 0, .int .i64 0, .int .i64 0, .int .i64 0, .bool false, .int .i64 0, .int .i64 0, .int .i64 0, .int .i64 0, .string E0, .string E0, .slice none 0 0] 107) = y5 at H HF7 ⊢
                rw [hgA] at H HF7 ⊢
                clear hgA
                refine hK.out _ _ ((H.c 1 rfl 0).trans rfl) (fun hHeld => ?_)
                clear hK K
                refine norm_ (a' := ?_) ?_ ?_
                rotate_left
                · show Act.put _ (some 10) _ = _
                  simp only [Act.put, List.setIfInBounds_toArray, List.set_cons_zero, List.set_cons_succ, i64_w, i32_w]
                  rfl
                have hc_ := hcont (gA, gB, A5, c5, A6, c6) _ ⟨H, HF7.out⟩
                simp only [putAll, Act.put, List.setIfInBounds_toArray, List.set_cons_zero, List.set_cons_succ] at hc_
                exact hc_
              · skip
                refine value_ (w1 := y3.alloc (.cells #[.int .i64 0, .int .i64 0, .int .i64 0, .int .i64 0, .bool false, .int .i64 0, .int .i64 0, .int .i64 0, .int .i64 0, .string E0, .string E0, .slice none 0 0] 107)) (v := .pointer (some ⟨y3.heap.size, 0, none⟩)) (by rfl) rfl ?_ ?_
                · first | (go_simp; done) | (go_simp; with_reducible rfl)
                replace H := H.alloc #[.int .i64 0, .int .i64 0, .int .i64 0, .int .i64 0, .bool false, .int .i64 0, .int .i64 0, .int .i64 0, .int .i64 0, .string E0, .string E0, .slice none 0 0] 107
                replace HF7 := Aside0.mk (Kd.F_mono (ok' := fun k => k ≠ y3.heap.size) (Kd.F_alloc (Kd.F_bound HF7.out) (.cells #[.int .i64 0, .int .i64 0, .int .i64 0, .int .i64 0, .bool false, .int .i64 0, .int .i64 0, .int .i64 0, .int .i64 0, .string E0, .string E0, .slice none 0 0] 107)) (fun k hk => Nat.ne_of_lt hk.2))
                replace HF5 := Aside0.mk (Kd.F_alloc HF5.out (.cells #[.int .i64 0, .int .i64 0, .int .i64 0, .int .i64 0, .bool false, .int .i64 0, .int .i64 0, .int .i64 0, .int .i64 0, .string E0, .string E0, .slice none 0 0] 107))
                obtain ⟨gA, hgA⟩ : ∃ g, y3.heap.size = g := ⟨_, rfl⟩
                generalize y3.alloc (.cells #[.int .i64 0, .int .i64 0, .int .i64 0, .int .i64 0, .bool false, .int .i64 0, .int .i64 0, .int .i64 0, .int .i64 0, .string E0, .string E0, .slice none 0 0] 107) = y6 at H HF7 HF5 ⊢
                rw [hgA] at H HF7 ⊢
                clear hgA
                refine hK.out _ _ ((H.c 1 rfl 0).trans rfl) (fun hHeld => ?_)
                clear hK K
                refine norm_ (a' := ?_) ?_ ?_
                rotate_left
                · show Act.put _ (some 10) _ = _
                  simp only [Act.put, List.setIfInBounds_toArray, List.set_cons_zero, List.set_cons_succ, i64_w, i32_w]
                  rfl
                refine one_ (i := 11) (N := some 136) #[true, true, true, true, true, true, true, true, true, true, true, true, false, false, false, true, false, false] rfl rfl (by kernel_rfl) (by simp) (fun K hK => ?_)
                refine goes_ Try.func44 (by kernel_rfl) rfl #[.int .i64 k0, .slice A5 (al ++ [numV 0]).length c5] (by rfl) rfl rfl (by first | rfl | (simp only [List.map_toArray, List.map_cons, List.map_nil]; done) | (simp only [List.map_toArray, List.map_cons, List.map_nil]; rfl)) ?_
                refine (HR2.out A5 c5 _ (Kd.F_now HF5.out) HL55.out).mono ?_
                rintro e_ y7 ⟨A6, c6, rfl, hq⟩
                refine ⟨_, rfl, ?_⟩
                replace H := H.go hq
                replace HF7 := Aside0.mk (Kd.F_below HF7.out hq)
                clear hq HF5
                refine hK.out _ _ ((H.c 1 rfl 0).trans rfl) (fun hHeld => ?_)
                clear hK K
                refine norm_ (a' := ?_) ?_ ?_
                rotate_left
                · show Act.put _ (some 136) _ = _
                  simp only [Act.put, List.setIfInBounds_toArray, List.set_cons_zero, List.set_cons_succ, i64_w, i32_w]
                  rfl
                refine Rg.pu 12 (some 124) ?_
                refine Rg.pu 13 (some 137) ?_
                refine Rg.pu 14 (some 138) ?_
                have hc_ := hcont (gA, gB, A5, c5, A6, c6) _ ⟨H, HF7.out⟩
                simp only [putAll, Act.put, List.setIfInBounds_toArray, List.set_cons_zero, List.set_cons_succ] at hc_
                exact hc_
            · skip
              refine value_ (w1 := y2.alloc (.cells #[.int .i64 0, .int .i64 0, .int .i64 0, .int .i64 0, .bool false, .int .i64 0, .int .i64 0, .int .i64 0, .int .i64 0, .string E0, .string E0, .slice none 0 0] 107)) (v := .pointer (some ⟨y2.heap.size, 0, none⟩)) (by rfl) rfl ?_ ?_
              · first | (go_simp; done) | (go_simp; with_reducible rfl)
              replace H := H.alloc #[.int .i64 0, .int .i64 0, .int .i64 0, .int .i64 0, .bool false, .int .i64 0, .int .i64 0, .int .i64 0, .int .i64 0, .string E0, .string E0, .slice none 0 0] 107
              replace HF7 := Aside0.mk (Kd.F_mono (ok' := fun k => k ≠ y2.heap.size) (Kd.F_alloc (Kd.F_bound HF7.out) (.cells #[.int .i64 0, .int .i64 0, .int .i64 0, .int .i64 0, .bool false, .int .i64 0, .int .i64 0, .int .i64 0, .int .i64 0, .string E0, .string E0, .slice none 0 0] 107)) (fun k hk => Nat.ne_of_lt hk.2))
              replace HBX := Aside0.mk (Kd.F_alloc HBX.out (.cells #[.int .i64 0, .int .i64 0, .int .i64 0, .int .i64 0, .bool false, .int .i64 0, .int .i64 0, .int .i64 0, .int .i64 0, .string E0, .string E0, .slice none 0 0] 107))
              obtain ⟨gA, hgA⟩ : ∃ g, y2.heap.size = g := ⟨_, rfl⟩
              generalize y2.alloc (.cells #[.int .i64 0, .int .i64 0, .int .i64 0, .int .i64 0, .bool false, .int .i64 0, .int .i64 0, .int .i64 0, .int .i64 0, .string E0, .string E0, .slice none 0 0] 107) = y8 at H HF7 HBX ⊢
              rw [hgA] at H HF7 ⊢
              clear hgA
              refine hK.out _ _ ((H.c 1 rfl 0).trans rfl) (fun hHeld => ?_)
              clear hK K
              refine norm_ (a' := ?_) ?_ ?_
              rotate_left
              · show Act.put _ (some 10) _ = _
                simp only [Act.put, List.setIfInBounds_toArray, List.set_cons_zero, List.set_cons_succ, i64_w, i32_w]
                rfl
              refine one_ (i := 10) (N := some 135) #[true, true, true, true, true, true, true, true, true, true, true, false, false, false, false, true, false, false] rfl rfl (by kernel_rfl) (by simp) (fun K hK => ?_)
              refine Kd.append_full_step k54 (by rfl) (.tmp 132) (.tmp 134) 52 54 (.agg #[(.int .i64 0), (.int .i64 0), (.string ⟨#[]⟩), (.slice none 0 0)]) 56 rfl Try.underlying52 (by kernel_rfl) rfl (by decide) (by omega) A7 al [numV 0] (some ⟨gB, 0, none⟩) 1 1 (fun _ => True) (fun _ => True) rfl rfl (by omega) (Kd.F_mono HF7.out (fun _ _ => trivial)) HBX.out (fun _ _ => trivial) (fun _ _ => trivial) HL5.out ?_
              intro v5 y9 hN5 hg5
              obtain ⟨A5, c5, rfl⟩ := Kd.N_slice hN5
              have HL55 := Aside0.mk (Kd.N_reads' hN5).2.1
              have HF5 := Aside0.mk (Kd.N_F hN5)
              replace H := H.grown (H.hb.grown hg5 H.hb.size (fun _ h => by cases h)) hg5 (fun _ _ => by simp)
              replace HF7 := Aside0.mk (Kd.F_grown HF7.out hg5 (fun _ _ => by simp))
              clear hN5 hg5 HBX
              refine hK.out _ _ ((H.c 1 rfl 0).trans rfl) (fun hHeld => ?_)
              clear hK K
              refine norm_ (a' := ?_) ?_ ?_
              rotate_left
              · show Act.put _ (some 135) _ = _
                simp only [Act.put, List.setIfInBounds_toArray, List.set_cons_zero, List.set_cons_succ, i64_w, i32_w]
                rfl
              refine one_ (i := 11) (N := some 136) #[true, true, true, true, true, true, true, true, true, true, true, true, false, false, false, true, false, false] rfl rfl (by kernel_rfl) (by simp) (fun K hK => ?_)
              refine goes_ Try.func44 (by kernel_rfl) rfl #[.int .i64 k0, .slice A5 (al ++ [numV 0]).length c5] (by rfl) rfl rfl (by first | rfl | (simp only [List.map_toArray, List.map_cons, List.map_nil]; done) | (simp only [List.map_toArray, List.map_cons, List.map_nil]; rfl)) ?_
              refine (HR2.out A5 c5 _ (Kd.F_now HF5.out) HL55.out).mono ?_
              rintro e_ y10 ⟨A6, c6, rfl, hq⟩
              refine ⟨_, rfl, ?_⟩
              replace H := H.go hq
              replace HF7 := Aside0.mk (Kd.F_below HF7.out hq)
              clear hq HF5
              refine hK.out _ _ ((H.c 1 rfl 0).trans rfl) (fun hHeld => ?_)
              clear hK K
              refine norm_ (a' := ?_) ?_ ?_
              rotate_left
              · show Act.put _ (some 136) _ = _
                simp only [Act.put, List.setIfInBounds_toArray, List.set_cons_zero, List.set_cons_succ, i64_w, i32_w]
                rfl
              refine Rg.pu 12 (some 124) ?_
              refine Rg.pu 13 (some 137) ?_
              refine Rg.pu 14 (some 138) ?_
              have hc_ := hcont (gA, gB, A5, c5, A6, c6) _ ⟨H, HF7.out⟩
              simp only [putAll, Act.put, List.setIfInBounds_toArray, List.set_cons_zero, List.set_cons_succ] at hc_
              exact hc_
          · skip
            refine value_ (w1 := y1.alloc (.cells #[.int .i64 0, .int .i64 0, .int .i64 0, .int .i64 0, .bool false, .int .i64 0, .int .i64 0, .int .i64 0, .int .i64 0, .string E0, .string E0, .slice none 0 0] 107)) (v := .pointer (some ⟨y1.heap.size, 0, none⟩)) (by rfl) rfl ?_ ?_
            · first | (go_simp; done) | (go_simp; with_reducible rfl)
            replace H := H.alloc #[.int .i64 0, .int .i64 0, .int .i64 0, .int .i64 0, .bool false, .int .i64 0, .int .i64 0, .int .i64 0, .int .i64 0, .string E0, .string E0, .slice none 0 0] 107
            replace HF7 := Aside0.mk (Kd.F_mono (ok' := fun k => k ≠ y1.heap.size) (Kd.F_alloc (Kd.F_bound HF7.out) (.cells #[.int .i64 0, .int .i64 0, .int .i64 0, .int .i64 0, .bool false, .int .i64 0, .int .i64 0, .int .i64 0, .int .i64 0, .string E0, .string E0, .slice none 0 0] 107)) (fun k hk => Nat.ne_of_lt hk.2))
            obtain ⟨gA, hgA⟩ : ∃ g, y1.heap.size = g := ⟨_, rfl⟩
            generalize y1.alloc (.cells #[.int .i64 0, .int .i64 0, .int .i64 0, .int .i64 0, .bool false, .int .i64 0, .int .i64 0, .int .i64 0, .int .i64 0, .string E0, .string E0, .slice none 0 0] 107) = y11 at H HF7 ⊢
            rw [hgA] at H HF7 ⊢
            clear hgA
            refine hK.out _ _ ((H.c 1 rfl 0).trans rfl) (fun hHeld => ?_)
            clear hK K
            refine norm_ (a' := ?_) ?_ ?_
            rotate_left
            · show Act.put _ (some 10) _ = _
              simp only [Act.put, List.setIfInBounds_toArray, List.set_cons_zero, List.set_cons_succ, i64_w, i32_w]
              rfl
            refine one_ (i := 9) (N := some 134) #[true, true, true, true, true, true, true, true, true, true, false, false, false, false, false, true, false, false] rfl rfl (by kernel_rfl) (by simp) (fun K hK => ?_)
            refine value_ (w1 := y11.alloc (.cells #[.int .i64 0, .int .i64 0, .string E0, .slice none 0 0] 54)) (v := .slice (some ⟨y11.heap.size, 0, none⟩) 1 1) (by rfl) rfl ?_ ?_
            · first | (go_simp; done) | (go_simp; with_reducible rfl)
            have HBX := Aside0.mk (An.foot_flat (W1 := y11.alloc (.cells #[.int .i64 0, .int .i64 0, .string E0, .slice none 0 0] 54)) (g := y11.heap.size) (fun _ => True) trivial [numV 0] (by intro x hx; rw [List.mem_singleton.1 hx]; rfl) (by decide) (blk_new y11 _))
            replace H := H.go (Bl.alloc (Bl.refl _) (.cells #[.int .i64 0, .int .i64 0, .string E0, .slice none 0 0] 54))
            replace HF7 := Aside0.mk (Kd.F_alloc HF7.out (.cells #[.int .i64 0, .int .i64 0, .string E0, .slice none 0 0] 54))
            obtain ⟨gB, hgB⟩ : ∃ g, y11.heap.size = g := ⟨_, rfl⟩
            generalize y11.alloc (.cells #[.int .i64 0, .int .i64 0, .string E0, .slice none 0 0] 54) = y12 at H HF7 HBX ⊢
            rw [hgB] at HBX ⊢
            clear hgB
            refine hK.out _ _ ((H.c 1 rfl 0).trans rfl) (fun hHeld => ?_)
            clear hK K
            refine norm_ (a' := ?_) ?_ ?_
            rotate_left
            · show Act.put _ (some 134) _ = _
              simp only [Act.put, List.setIfInBounds_toArray, List.set_cons_zero, List.set_cons_succ, i64_w, i32_w]
              rfl
            refine one_ (i := 10) (N := some 135) #[true, true, true, true, true, true, true, true, true, true, true, false, false, false, false, true, false, false] rfl rfl (by kernel_rfl) (by simp) (fun K hK => ?_)
            refine Kd.append_full_step k54 (by rfl) (.tmp 132) (.tmp 134) 52 54 (.agg #[(.int .i64 0), (.int .i64 0), (.string ⟨#[]⟩), (.slice none 0 0)]) 56 rfl Try.underlying52 (by kernel_rfl) rfl (by decide) (by omega) A7 al [numV 0] (some ⟨gB, 0, none⟩) 1 1 (fun _ => True) (fun _ => True) rfl rfl (by omega) (Kd.F_mono HF7.out (fun _ _ => trivial)) HBX.out (fun _ _ => trivial) (fun _ _ => trivial) HL5.out ?_
            intro v5 y13 hN5 hg5
            obtain ⟨A5, c5, rfl⟩ := Kd.N_slice hN5
            have HL55 := Aside0.mk (Kd.N_reads' hN5).2.1
            have HF5 := Aside0.mk (Kd.N_F hN5)
            replace H := H.grown (H.hb.grown hg5 H.hb.size (fun _ h => by cases h)) hg5 (fun _ _ => by simp)
            replace HF7 := Aside0.mk (Kd.F_grown HF7.out hg5 (fun _ _ => by simp))
            clear hN5 hg5 HBX
            refine hK.out _ _ ((H.c 1 rfl 0).trans rfl) (fun hHeld => ?_)
            clear hK K
            refine norm_ (a' := ?_) ?_ ?_
            rotate_left
            · show Act.put _ (some 135) _ = _
              simp only [Act.put, List.setIfInBounds_toArray, List.set_cons_zero, List.set_cons_succ, i64_w, i32_w]
              rfl
            refine one_ (i := 11) (N := some 136) #[true, true, true, true, true, true, true, true, true, true, true, true, false, false, false, true, false, false] rfl rfl (by kernel_rfl) (by simp) (fun K hK => ?_)
            refine goes_ Try.func44 (by kernel_rfl) rfl #[.int .i64 k0, .slice A5 (al ++ [numV 0]).length c5] (by rfl) rfl rfl (by first | rfl | (simp only [List.map_toArray, List.map_cons, List.map_nil]; done) | (simp only [List.map_toArray, List.map_cons, List.map_nil]; rfl)) ?_
            refine (HR2.out A5 c5 _ (Kd.F_now HF5.out) HL55.out).mono ?_
            rintro e_ y14 ⟨A6, c6, rfl, hq⟩
            refine ⟨_, rfl, ?_⟩
            replace H := H.go hq
            replace HF7 := Aside0.mk (Kd.F_below HF7.out hq)
            clear hq HF5
            refine hK.out _ _ ((H.c 1 rfl 0).trans rfl) (fun hHeld => ?_)
            clear hK K
            refine norm_ (a' := ?_) ?_ ?_
            rotate_left
            · show Act.put _ (some 136) _ = _
              simp only [Act.put, List.setIfInBounds_toArray, List.set_cons_zero, List.set_cons_succ, i64_w, i32_w]
              rfl
            refine Rg.pu 12 (some 124) ?_
            refine Rg.pu 13 (some 137) ?_
            refine Rg.pu 14 (some 138) ?_
            have hc_ := hcont (gA, gB, A5, c5, A6, c6) _ ⟨H, HF7.out⟩
            simp only [putAll, Act.put, List.setIfInBounds_toArray, List.set_cons_zero, List.set_cons_succ] at hc_
            exact hc_
        · skip
          refine value_ (w1 := y0.alloc (.cells #[.int .i64 0, .int .i64 0, .int .i64 0, .int .i64 0, .bool false, .int .i64 0, .int .i64 0, .int .i64 0, .int .i64 0, .string E0, .string E0, .slice none 0 0] 107)) (v := .pointer (some ⟨y0.heap.size, 0, none⟩)) (by rfl) rfl ?_ ?_
          · first | (go_simp; done) | (go_simp; with_reducible rfl)
          replace H := H.alloc #[.int .i64 0, .int .i64 0, .int .i64 0, .int .i64 0, .bool false, .int .i64 0, .int .i64 0, .int .i64 0, .int .i64 0, .string E0, .string E0, .slice none 0 0] 107
          replace HF7 := Aside0.mk (Kd.F_mono (ok' := fun k => k ≠ y0.heap.size) (Kd.F_alloc (Kd.F_bound HF7.out) (.cells #[.int .i64 0, .int .i64 0, .int .i64 0, .int .i64 0, .bool false, .int .i64 0, .int .i64 0, .int .i64 0, .int .i64 0, .string E0, .string E0, .slice none 0 0] 107)) (fun k hk => Nat.ne_of_lt hk.2))
          obtain ⟨gA, hgA⟩ : ∃ g, y0.heap.size = g := ⟨_, rfl⟩
          generalize y0.alloc (.cells #[.int .i64 0, .int .i64 0, .int .i64 0, .int .i64 0, .bool false, .int .i64 0, .int .i64 0, .int .i64 0, .int .i64 0, .string E0, .string E0, .slice none 0 0] 107) = y15 at H HF7 ⊢
          rw [hgA] at H HF7 ⊢
          clear hgA
          refine hK.out _ _ ((H.c 1 rfl 0).trans rfl) (fun hHeld => ?_)
          clear hK K
          refine norm_ (a' := ?_) ?_ ?_
          rotate_left
          · show Act.put _ (some 10) _ = _
            simp only [Act.put, List.setIfInBounds_toArray, List.set_cons_zero, List.set_cons_succ, i64_w, i32_w]
            rfl
          refine one_ (i := 8) (N := some 133) #[true, true, true, true, true, true, true, true, true, false, false, false, false, false, false, true, false, false] rfl rfl (by kernel_rfl) (by simp) (fun K hK => ?_)
          refine goes_ Try.func48 (by kernel_rfl) rfl #[.int .i64 0] (by rfl) rfl rfl (by first | rfl | (simp only [List.map_toArray, List.map_cons, List.map_nil]; done) | (simp only [List.map_toArray, List.map_cons, List.map_nil]; rfl)) ?_
          refine (An.num0 0 _).mono ?_
          rintro e_ y16 ⟨rfl, hq⟩
          refine ⟨_, rfl, ?_⟩
          replace H := H.go hq
          replace HF7 := Aside0.mk (Kd.F_below HF7.out hq)
          clear hq
          refine hK.out _ _ ((H.c 1 rfl 0).trans rfl) (fun hHeld => ?_)
          clear hK K
          refine norm_ (a' := ?_) ?_ ?_
          rotate_left
          · show Act.put _ (some 133) _ = _
            simp only [Act.put, List.setIfInBounds_toArray, List.set_cons_zero, List.set_cons_succ, i64_w, i32_w]
            rfl
          refine one_ (i := 9) (N := some 134) #[true, true, true, true, true, true, true, true, true, true, false, false, false, false, false, true, false, false] rfl rfl (by kernel_rfl) (by simp) (fun K hK => ?_)
          refine value_ (w1 := y16.alloc (.cells #[.int .i64 0, .int .i64 0, .string E0, .slice none 0 0] 54)) (v := .slice (some ⟨y16.heap.size, 0, none⟩) 1 1) (by rfl) rfl ?_ ?_
          · first | (go_simp; done) | (go_simp; with_reducible rfl)
          have HBX := Aside0.mk (An.foot_flat (W1 := y16.alloc (.cells #[.int .i64 0, .int .i64 0, .string E0, .slice none 0 0] 54)) (g := y16.heap.size) (fun _ => True) trivial [numV 0] (by intro x hx; rw [List.mem_singleton.1 hx]; rfl) (by decide) (blk_new y16 _))
          replace H := H.go (Bl.alloc (Bl.refl _) (.cells #[.int .i64 0, .int .i64 0, .string E0, .slice none 0 0] 54))
          replace HF7 := Aside0.mk (Kd.F_alloc HF7.out (.cells #[.int .i64 0, .int .i64 0, .string E0, .slice none 0 0] 54))
          obtain ⟨gB, hgB⟩ : ∃ g, y16.heap.size = g := ⟨_, rfl⟩
          generalize y16.alloc (.cells #[.int .i64 0, .int .i64 0, .string E0, .slice none 0 0] 54) = y17 at H HF7 HBX ⊢
          rw [hgB] at HBX ⊢
          clear hgB
          refine hK.out _ _ ((H.c 1 rfl 0).trans rfl) (fun hHeld => ?_)
          clear hK K
          refine norm_ (a' := ?_) ?_ ?_
          rotate_left
          · show Act.put _ (some 134) _ = _
            simp only [Act.put, List.setIfInBounds_toArray, List.set_cons_zero, List.set_cons_succ, i64_w, i32_w]
            rfl
          refine one_ (i := 10) (N := some 135) #[true, true, true, true, true, true, true, true, true, true, true, false, false, false, false, true, false, false] rfl rfl (by kernel_rfl) (by simp) (fun K hK => ?_)
          refine Kd.append_full_step k54 (by rfl) (.tmp 132) (.tmp 134) 52 54 (.agg #[(.int .i64 0), (.int .i64 0), (.string ⟨#[]⟩), (.slice none 0 0)]) 56 rfl Try.underlying52 (by kernel_rfl) rfl (by decide) (by omega) A7 al [numV 0] (some ⟨gB, 0, none⟩) 1 1 (fun _ => True) (fun _ => True) rfl rfl (by omega) (Kd.F_mono HF7.out (fun _ _ => trivial)) HBX.out (fun _ _ => trivial) (fun _ _ => trivial) HL5.out ?_
          intro v5 y18 hN5 hg5
          obtain ⟨A5, c5, rfl⟩ := Kd.N_slice hN5
          have HL55 := Aside0.mk (Kd.N_reads' hN5).2.1
          have HF5 := Aside0.mk (Kd.N_F hN5)
          replace H := H.grown (H.hb.grown hg5 H.hb.size (fun _ h => by cases h)) hg5 (fun _ _ => by simp)
          replace HF7 := Aside0.mk (Kd.F_grown HF7.out hg5 (fun _ _ => by simp))
          clear hN5 hg5 HBX
          refine hK.out _ _ ((H.c 1 rfl 0).trans rfl) (fun hHeld => ?_)
          clear hK K
          refine norm_ (a' := ?_) ?_ ?_
          rotate_left
          · show Act.put _ (some 135) _ = _
            simp only [Act.put, List.setIfInBounds_toArray, List.set_cons_zero, List.set_cons_succ, i64_w, i32_w]
            rfl
          refine one_ (i := 11) (N := some 136) #[true, true, true, true, true, true, true, true, true, true, true, true, false, false, false, true, false, false] rfl rfl (by kernel_rfl) (by simp) (fun K hK => ?_)
          refine goes_ Try.func44 (by kernel_rfl) rfl #[.int .i64 k0, .slice A5 (al ++ [numV 0]).length c5] (by rfl) rfl rfl (by first | rfl | (simp only [List.map_toArray, List.map_cons, List.map_nil]; done) | (simp only [List.map_toArray, List.map_cons, List.map_nil]; rfl)) ?_
          refine (HR2.out A5 c5 _ (Kd.F_now HF5.out) HL55.out).mono ?_
          rintro e_ y19 ⟨A6, c6, rfl, hq⟩
          refine ⟨_, rfl, ?_⟩
          replace H := H.go hq
          replace HF7 := Aside0.mk (Kd.F_below HF7.out hq)
          clear hq HF5
          refine hK.out _ _ ((H.c 1 rfl 0).trans rfl) (fun hHeld => ?_)
          clear hK K
          refine norm_ (a' := ?_) ?_ ?_
          rotate_left
          · show Act.put _ (some 136) _ = _
            simp only [Act.put, List.setIfInBounds_toArray, List.set_cons_zero, List.set_cons_succ, i64_w, i32_w]
            rfl
          refine Rg.pu 12 (some 124) ?_
          refine Rg.pu 13 (some 137) ?_
          refine Rg.pu 14 (some 138) ?_
          have hc_ := hcont (gA, gB, A5, c5, A6, c6) _ ⟨H, HF7.out⟩
          simp only [putAll, Act.put, List.setIfInBounds_toArray, List.set_cons_zero, List.set_cons_succ] at hc_
          exact hc_
      clear HF7 H hHeld HL5 HR2
      rintro ⟨gA, gB, A5, c5, A6, c6⟩ u8 ⟨H, hF7⟩
      dsimp only at H
      have HF7 := Aside0.mk hF7
      clear hF7
      refine norm_ (a' := ?_) ?_ ?_
      rotate_left
      · simp only [putAll, Act.put, List.setIfInBounds_toArray, List.set_cons_zero, List.set_cons_succ]
        rfl
      have cc := H.c 0 rfl
      have qq := H.q 0 rfl
      refine last_ (i := 16) (N := none) #[true, true, true, true, true, true, true, true, true, true, true, true, true, true, true, true, true, false] rfl rfl (by kernel_rfl) (by simp) (fun K hK => ?_)
      refine skip_ (w1 := Sh.sets u8 gA 0 [.int .i64 0, .int .i64 0, .int .i64 0, .int .i64 0, .bool false, .int .i64 0, .int .i64 0, .int .i64 0, .int .i64 0, .string E0, .string E0, .slice A6 0 c6]) (by rfl) rfl ?_ ?_
      · first | (go_simp; done) | (go_simp; with_reducible rfl) | (go_simp; rfl)
      refine hK.out _ _ ?_
      clear hK K cc qq
      replace HF7 := Aside0.mk (Kd.F_step HF7.out (fun k hk _ => sets_o hk [.int .i64 0, .int .i64 0, .int .i64 0, .int .i64 0, .bool false, .int .i64 0, .int .i64 0, .int .i64 0, .int .i64 0, .string E0, .string E0, .slice A6 0 c6] 0 _))
      replace H := (H.sets 0 [.int .i64 0, .int .i64 0, .int .i64 0, .int .i64 0, .bool false, .int .i64 0, .int .i64 0, .int .i64 0, .int .i64 0, .string E0, .string E0, .slice A6 0 c6] rfl rfl (L' := [(gA, #[.int .i64 0, .int .i64 0, .int .i64 0, .int .i64 0, .bool false, .int .i64 0, .int .i64 0, .int .i64 0, .int .i64 0, .string E0, .string E0, .slice A6 0 c6], 107), (g2, #[.int .i64 k0, .int .i64 run, .int .i64 (sm node), .int .i64 (sm tri), .bool ok, .int .i64 (sm per), .int .i64 (sm rol), .int .i64 til, .int .i64 (sm cal), .string nm, .string fn, .slice A2 na.length c2], 107)]) rfl).tail
      generalize Sh.sets u8 gA 0 [.int .i64 0, .int .i64 0, .int .i64 0, .int .i64 0, .bool false, .int .i64 0, .int .i64 0, .int .i64 0, .int .i64 0, .string E0, .string E0, .slice A6 0 c6] = v8 at H HF7 ⊢
      refine Rg.pu 17 (some 11) ?_
      refine done_ (by kernel_rfl) ?_
      have HF7 := Aside0.mk (Kd.F_mono (ok' := fun _ => True) HF7.out (fun _ _ => trivial))
      by_cases h0 : al.length = 0
      · have hz : ((al.length : Int) = 0) = True := by rw [h0]; simp
        go_wp2
        exact bodyPost_ret (results_tmp Try.results13 _ _ _) rfl ⟨rfl, H.hb⟩
      have hz : ((al.length : Int) = 0) = False := eq_false (by omega)
      go_upto_region 20 with fail
      have HR4 := Aside0.mk (HR4.out h0)
      obtain ⟨vl, hvl⟩ : ∃ vl, al.take (al.length - 1) = vl := ⟨_, rfl⟩
      rw [hvl] at HR4
      have hvn : vl.length + 1 = al.length := by rw [← hvl, List.length_take]; omega
      replace HF7 := Aside0.mk (Kd.F_takeN HF7.out (al.length - 1) (Nat.sub_le _ _) hvl)
      have HLT7 := Aside0.mk (show vl.length ≤ al.length by omega)
      have hb0 : (0 : Int) ≤ (vl.length : Int) := Int.natCast_nonneg _
      have hb1 : (vl.length : Int) ≤ (al.length : Int) := by omega
      have hw1 : IntKind.i64.wrap ((al.length : Int) - 1) = (vl.length : Int) := by
        have := HLN.out
        rw [i64_w]
        unfold wrap64
        omega
      clear hvl hvn h0 hz hn0 hn1
      replace H := H.drew
      replace HF7 := Aside0.mk (Kd.F_drew HF7.out)
      refine start_ (n := 14) (ds := [12]) (S := fun w' => w'.cell? ⟨g2, 0, none⟩ = some (.int .i64 k0)) #[false, false, false, false, false, false, false, false, false, false, false, false, false, false] (by kernel_rfl) rfl rfl ((H.c 0 rfl 0).trans rfl) (fun hHeld => ?_)
      generalize v8.drew = z0 at H HF7 hHeld ⊢
      refine Rg.pu 0 (some 145) ?_
      refine Rg.tk 1 (some 146) hHeld ?_
      refine Rg.pu 2 (some 147) ?_
      refine Rg.pu 3 (some 148) ?_
      refine Rg.pu 4 (some 149) ?_
      refine Rg.pu 5 (some 150) ?_
      refine Rg.pu 6 (some 151) ?_
      refine join_ (σ := Nat × Option Addr × Nat) 2 #[true, true, true, true, true, true, true, true, true, true, true, true, false, false] (fun s => [(152, .tuple #[(.agg #[.int .i64 0, .int .i64 0, .int .i64 0, .int .i64 0, .bool false, .int .i64 0, .int .i64 0, .int .i64 0, .int .i64 0, .string E0, .string E0, .slice s.2.1 0 s.2.2]), .int .i64 4]), (144, .tuple #[(.agg #[.int .i64 0, .int .i64 0, .int .i64 0, .int .i64 0, .bool false, .int .i64 0, .int .i64 0, .int .i64 0, .int .i64 0, .string E0, .string E0, .slice s.2.1 0 s.2.2]), .int .i64 4]), (153, (.agg #[.int .i64 0, .int .i64 0, .int .i64 0, .int .i64 0, .bool false, .int .i64 0, .int .i64 0, .int .i64 0, .int .i64 0, .string E0, .string E0, .slice s.2.1 0 s.2.2])), (154, .int .i64 4), (12, .pointer (some ⟨s.1, 0, none⟩))]) (fun s w' => St w w' [(s.1, #[.int .i64 0, .int .i64 0, .int .i64 0, .int .i64 0, .bool false, .int .i64 0, .int .i64 0, .int .i64 0, .int .i64 0, .string E0, .string E0, .slice none 0 0], 107), (g2, #[.int .i64 k0, .int .i64 run, .int .i64 (sm node), .int .i64 (sm tri), .bool ok, .int .i64 (sm per), .int .i64 (sm rol), .int .i64 til, .int .i64 (sm cal), .string nm, .string fn, .slice A2 na.length c2], 107)]) ?_ (fun hcont => ?_)
      rotate_left
      · skip
        refine two_ (i := 7) (j := 11) (Ni := some 152) (Nj := some 12) #[true, true, true, true, true, true, true, true, false, false, false, false, false, false] #[true, true, true, true, true, true, true, false, false, false, false, true, false, false] rfl rfl rfl rfl (by kernel_rfl) (by simp) (by simp) (fun K hK => ?_) (fun K hK => ?_)
        · skip
          refine goes_ Try.func44 (by kernel_rfl) rfl #[.int .i64 k0, .slice A7 vl.length al.length] (by rfl) rfl rfl (by first | rfl | (simp only [List.map_toArray, List.map_cons, List.map_nil]; done) | (simp only [List.map_toArray, List.map_cons, List.map_nil]; rfl)) ?_
          refine (HR4.out A7 al.length _ (Kd.F_now HF7.out) HLT7.out).mono ?_
          rintro e_ y20 ⟨A6, c6, rfl, hq⟩
          refine ⟨_, rfl, ?_⟩
          replace H := H.go hq
          replace HF7 := Aside0.mk (Kd.F_below HF7.out hq)
          clear hq
          refine hK.out _ _ ((H.c 0 rfl 0).trans rfl) (fun hHeld => ?_)
          clear hK K
          refine norm_ (a' := ?_) ?_ ?_
          rotate_left
          · show Act.put _ (some 152) _ = _
            simp only [Act.put, List.setIfInBounds_toArray, List.set_cons_zero, List.set_cons_succ, i64_w, i32_w]
            rfl
          refine Rg.pu 8 (some 144) ?_
          refine Rg.pu 9 (some 153) ?_
          refine Rg.pu 10 (some 154) ?_
          refine one_ (i := 11) (N := some 12) #[true, true, true, true, true, true, true, true, true, true, true, true, false, false] rfl rfl (by kernel_rfl) (by simp) (fun K hK => ?_)
          refine value_ (w1 := y20.alloc (.cells #[.int .i64 0, .int .i64 0, .int .i64 0, .int .i64 0, .bool false, .int .i64 0, .int .i64 0, .int .i64 0, .int .i64 0, .string E0, .string E0, .slice none 0 0] 107)) (v := .pointer (some ⟨y20.heap.size, 0, none⟩)) (by rfl) rfl ?_ ?_
          · first | (go_simp; done) | (go_simp; with_reducible rfl)
          replace H := H.alloc #[.int .i64 0, .int .i64 0, .int .i64 0, .int .i64 0, .bool false, .int .i64 0, .int .i64 0, .int .i64 0, .int .i64 0, .string E0, .string E0, .slice none 0 0] 107
          replace HF7 := Aside0.mk (Kd.F_mono (ok' := fun k => k ≠ y20.heap.size) (Kd.F_alloc (Kd.F_bound HF7.out) (.cells #[.int .i64 0, .int .i64 0, .int .i64 0, .int .i64 0, .bool false, .int .i64 0, .int .i64 0, .int .i64 0, .int .i64 0, .string E0, .string E0, .slice none 0 0] 107)) (fun k hk => Nat.ne_of_lt hk.2))
          obtain ⟨gA, hgA⟩ : ∃ g, y20.heap.size = g := ⟨_, rfl⟩
          generalize y20.alloc (.cells #[.int .i64 0, .int .i64 0, .int .i64 0, .int .i64 0, .bool false, .int .i64 0, .int .i64 0, .int .i64 0, .int .i64 0, .string E0, .string E0, .slice none 0 0] 107) = y21 at H HF7 ⊢
          rw [hgA] at H HF7 ⊢
          clear hgA
          refine hK.out _ _ ((H.c 1 rfl 0).trans rfl) (fun hHeld => ?_)
          clear hK K
          refine norm_ (a' := ?_) ?_ ?_
          rotate_left
          · show Act.put _ (some 12) _ = _
            simp only [Act.put, List.setIfInBounds_toArray, List.set_cons_zero, List.set_cons_succ, i64_w, i32_w]
            rfl
          have hc_ := hcont (gA, A6, c6) _ H
          simp only [putAll, Act.put, List.setIfInBounds_toArray, List.set_cons_zero, List.set_cons_succ] at hc_
          exact hc_
        · skip
          refine value_ (w1 := z0.alloc (.cells #[.int .i64 0, .int .i64 0, .int .i64 0, .int .i64 0, .bool false, .int .i64 0, .int .i64 0, .int .i64 0, .int .i64 0, .string E0, .string E0, .slice none 0 0] 107)) (v := .pointer (some ⟨z0.heap.size, 0, none⟩)) (by rfl) rfl ?_ ?_
          · first | (go_simp; done) | (go_simp; with_reducible rfl)
          replace H := H.alloc #[.int .i64 0, .int .i64 0, .int .i64 0, .int .i64 0, .bool false, .int .i64 0, .int .i64 0, .int .i64 0, .int .i64 0, .string E0, .string E0, .slice none 0 0] 107
          replace HF7 := Aside0.mk (Kd.F_mono (ok' := fun k => k ≠ z0.heap.size) (Kd.F_alloc (Kd.F_bound HF7.out) (.cells #[.int .i64 0, .int .i64 0, .int .i64 0, .int .i64 0, .bool false, .int .i64 0, .int .i64 0, .int .i64 0, .int .i64 0, .string E0, .string E0, .slice none 0 0] 107)) (fun k hk => Nat.ne_of_lt hk.2))
          obtain ⟨gA, hgA⟩ : ∃ g, z0.heap.size = g := ⟨_, rfl⟩
          generalize z0.alloc (.cells #[.int .i64 0, .int .i64 0, .int .i64 0, .int .i64 0, .bool false, .int .i64 0, .int .i64 0, .int .i64 0, .int .i64 0, .string E0, .string E0, .slice none 0 0] 107) = y22 at H HF7 ⊢
          rw [hgA] at H HF7 ⊢
          clear hgA
          refine hK.out _ _ ((H.c 1 rfl 0).trans rfl) (fun hHeld => ?_)
          clear hK K
          refine norm_ (a' := ?_) ?_ ?_
          rotate_left
          · show Act.put _ (some 12) _ = _
            simp only [Act.put, List.setIfInBounds_toArray, List.set_cons_zero, List.set_cons_succ, i64_w, i32_w]
            rfl
          refine one_ (i := 7) (N := some 152) #[true, true, true, true, true, true, true, true, false, false, false, true, false, false] rfl rfl (by kernel_rfl) (by simp) (fun K hK => ?_)
          refine goes_ Try.func44 (by kernel_rfl) rfl #[.int .i64 k0, .slice A7 vl.length al.length] (by rfl) rfl rfl (by first | rfl | (simp only [List.map_toArray, List.map_cons, List.map_nil]; done) | (simp only [List.map_toArray, List.map_cons, List.map_nil]; rfl)) ?_
          refine (HR4.out A7 al.length _ (Kd.F_now HF7.out) HLT7.out).mono ?_
          rintro e_ y23 ⟨A6, c6, rfl, hq⟩
          refine ⟨_, rfl, ?_⟩
          replace H := H.go hq
          replace HF7 := Aside0.mk (Kd.F_below HF7.out hq)
          clear hq
          refine hK.out _ _ ((H.c 1 rfl 0).trans rfl) (fun hHeld => ?_)
          clear hK K
          refine norm_ (a' := ?_) ?_ ?_
          rotate_left
          · show Act.put _ (some 152) _ = _
            simp only [Act.put, List.setIfInBounds_toArray, List.set_cons_zero, List.set_cons_succ, i64_w, i32_w]
            rfl
          refine Rg.pu 8 (some 144) ?_
          refine Rg.pu 9 (some 153) ?_
          refine Rg.pu 10 (some 154) ?_
          have hc_ := hcont (gA, A6, c6) _ H
          simp only [putAll, Act.put, List.setIfInBounds_toArray, List.set_cons_zero, List.set_cons_succ] at hc_
          exact hc_
      clear HF7 H hHeld HR4
      rintro ⟨gA, A6, c6⟩ u9 H
      dsimp only at H
      refine norm_ (a' := ?_) ?_ ?_
      rotate_left
      · simp only [putAll, Act.put, List.setIfInBounds_toArray, List.set_cons_zero, List.set_cons_succ]
        rfl
      have cc := H.c 0 rfl
      have qq := H.q 0 rfl
      refine last_ (i := 12) (N := none) #[true, true, true, true, true, true, true, true, true, true, true, true, true, false] rfl rfl (by kernel_rfl) (by simp) (fun K hK => ?_)
      refine skip_ (w1 := Sh.sets u9 gA 0 [.int .i64 0, .int .i64 0, .int .i64 0, .int .i64 0, .bool false, .int .i64 0, .int .i64 0, .int .i64 0, .int .i64 0, .string E0, .string E0, .slice A6 0 c6]) (by rfl) rfl ?_ ?_
      · first | (go_simp; done) | (go_simp; with_reducible rfl) | (go_simp; rfl)
      refine hK.out _ _ ?_
      clear hK K cc qq
      replace H := (H.sets 0 [.int .i64 0, .int .i64 0, .int .i64 0, .int .i64 0, .bool false, .int .i64 0, .int .i64 0, .int .i64 0, .int .i64 0, .string E0, .string E0, .slice A6 0 c6] rfl rfl (L' := [(gA, #[.int .i64 0, .int .i64 0, .int .i64 0, .int .i64 0, .bool false, .int .i64 0, .int .i64 0, .int .i64 0, .int .i64 0, .string E0, .string E0, .slice A6 0 c6], 107), (g2, #[.int .i64 k0, .int .i64 run, .int .i64 (sm node), .int .i64 (sm tri), .bool ok, .int .i64 (sm per), .int .i64 (sm rol), .int .i64 til, .int .i64 (sm cal), .string nm, .string fn, .slice A2 na.length c2], 107)]) rfl).tail
      generalize Sh.sets u9 gA 0 [.int .i64 0, .int .i64 0, .int .i64 0, .int .i64 0, .bool false, .int .i64 0, .int .i64 0, .int .i64 0, .int .i64 0, .string E0, .string E0, .slice A6 0 c6] = v9 at H ⊢
      refine Rg.pu 13 (some 13) ?_
      refine done_ (by kernel_rfl) ?_
      go_wp2
      exact bodyPost_ret (results_tmp Try.results13 _ _ _) rfl ⟨rfl, H.hb⟩
end Go.Proofs.Ytjicfkmpgogppaa.Ok
