/-
  The document's Read of an ask, walked.
-/
import Derived.Test.YtjicfkmpgogppaaRdW
import Derived.Test.YtjicfkmpgogppaaH1
import Derived.LoopTactic
import Derived.Outline
import Derived.Deep.RegionHeld3
namespace Go.Proofs.Ytjicfkmpgogppaa.Rr
set_option linter.unusedVariables false
set_option linter.unusedSimpArgs false
open Go Go.RowKit Go.Proofs.Ytjicfkmpgogppaa.Plain Go.Proofs.Ytjicfkmpgogppaa.Vs Go.Proofs.Ytjicfkmpgogppaa.Sh Go.Proofs.Ytjicfkmpgogppaa.PA Go.Proofs.YtjicfkmpgogppaaW.PrintWords Go.Proofs.YtjicfkmpgogppaaW.PrintLast Go.Proofs.YtjicfkmpgogppaaW.PrintMore
open Go.Proofs.Ytjicfkmpgogppaa.Rw (B_ E0 inr flowRW limB)
/-- which kinds an op's args are of -/
def kindsB (o : Int) : List UInt8 := if o = 0 then [108] else if o = 1 ∨ o = 7 then [] else if o = 2 then [108, 115, 115, 102] else if o = 3 then [116] else if o = 4 then [119] else if o = 5 then [115, 108] else if o = 6 then [115, 115] else if o = 8 ∨ o = 9 then [115, 116] else [45]
def fitsB (k : UInt8) (v : W) : Bool := if k = 108 then v.f0 == 0 else if k = 115 then decide (v.f0 = 0 ∧ inr v.f1 = true) else if k = 102 then decide (v.f0 = 0 ∧ (v.f1 = 0 ∨ v.f1 = 1)) else if k = 116 then v.f0 == 1 else (flowRW v).2.2 == 0
set_option maxHeartbeats 4000000 in
set_option maxRecDepth 100000 in
theorem kinds_walk (o : Int) (w : World) : Calls Try.prog 87 #[.int .i64 o] w fun e w' => e = .returned (.string ⟨(kindsB o).toArray⟩) ∧ Bl w w' := by
  by_cases h : o = 0 ∨ o = 1 ∨ o = 7 ∨ o = 2 ∨ o = 3 ∨ o = 4 ∨ o = 5 ∨ o = 6 ∨ o = 8 ∨ o = 9
  · rcases h with rfl | rfl | rfl | rfl | rfl | rfl | rfl | rfl | rfl | rfl <;>
    · go_enter Try.func87, Try.ntmps87
      go_wp2
      exact bodyPost_ret (results_tmp Try.results87 _ _ _) rfl ⟨rfl, Bl.refl _⟩
  · have e : kindsB o = [45] := by unfold kindsB; repeat (first | rw [if_neg (by omega)] | rfl)
    rw [e]
    have n0 : (o == 0) = false := beq_eq_false_iff_ne.2 (by omega)
    have n1 : (o == 1) = false := beq_eq_false_iff_ne.2 (by omega)
    have n2 : (o == 2) = false := beq_eq_false_iff_ne.2 (by omega)
    have n3 : (o == 3) = false := beq_eq_false_iff_ne.2 (by omega)
    have n4 : (o == 4) = false := beq_eq_false_iff_ne.2 (by omega)
    have n5 : (o == 5) = false := beq_eq_false_iff_ne.2 (by omega)
    have n6 : (o == 6) = false := beq_eq_false_iff_ne.2 (by omega)
    have n7 : (o == 7) = false := beq_eq_false_iff_ne.2 (by omega)
    have n8 : (o == 8) = false := beq_eq_false_iff_ne.2 (by omega)
    have n9 : (o == 9) = false := beq_eq_false_iff_ne.2 (by omega)
    clear h e
    go_enter Try.func87, Try.ntmps87
    go_wp2
    exact bodyPost_ret (results_tmp Try.results87 _ _ _) rfl ⟨rfl, Bl.refl _⟩
set_option maxHeartbeats 4000000 in
set_option maxRecDepth 100000 in
theorem nek {k j : UInt8} (h : k ≠ j) : ((k.toNat : Int) == (j.toNat : Int)) = false := beq_eq_false_iff_ne.2 (fun e => h (UInt8.toNat_inj.1 (Int.ofNat.inj e)))
set_option maxHeartbeats 4000000 in
set_option maxRecDepth 100000 in
theorem fits_walk (k : UInt8) (x : W) (A : Option Addr) (c : Nat) (w : World) (hC : Kd.C k57 w A x.f3.length x.f3) (hc : x.f3.length ≤ c) (hl : limB x = true) : Calls Try.prog 88 #[.int .u8 k.toNat, .agg #[.int .i64 x.f0, .int .i64 x.f1, .string x.f2, .slice A x.f3.length c]] w fun e w' => e = .returned (.bool (fitsB k x)) ∧ Bl w w' := by
  have hu := Try.underlying57
  have hu2 := Try.underlying30
  have H := (St.start w).alloc #[.int .i64 x.f0, .int .i64 x.f1, .string x.f2, .slice A x.f3.length c] 57
  have c0 := H.c 0 rfl
  by_cases k1 : k = 108
  · subst k1
    rw [show ((UInt8.toNat 108 : Nat) : Int) = 108 from rfl]
    go_enter Try.func88, Try.ntmps88
    go_wp2
    exact bodyPost_ret (results_tmp Try.results88 _ _ _) rfl ⟨rfl, H.hb⟩
  have q1 : ((k.toNat : Int) == 108) = false := nek k1
  by_cases k2 : k = 115
  · subst k2
    rw [show ((UInt8.toNat 115 : Nat) : Int) = 115 from rfl]
    obtain ⟨a, b, s, xs⟩ := x
    have e : fitsB 115 ⟨a, b, s, xs⟩ = (a == 0 && (decide (-2147483648 ≤ b) && decide (b ≤ 2147483647))) := by
      rw [Bool.eq_iff_iff]
      simp [fitsB, inr]
    rw [e]
    clear e hC hc hl q1 k1
    simp only at H c0 ⊢
    by_cases ha : a = 0
    · subst ha
      by_cases h1 : -2147483648 ≤ b
      · by_cases h2 : b ≤ 2147483647
        · have g1 := decide_eq_true h1
          have g2 := decide_eq_true h2
          go_enter Try.func88, Try.ntmps88
          go_wp2
          exact bodyPost_ret (results_tmp Try.results88 _ _ _) rfl ⟨by simp [*], H.hb⟩
        · have g1 := decide_eq_true h1
          have g2 := decide_eq_false h2
          go_enter Try.func88, Try.ntmps88
          go_wp2
          exact bodyPost_ret (results_tmp Try.results88 _ _ _) rfl ⟨by simp [*], H.hb⟩
      · have g1 := decide_eq_false h1
        go_enter Try.func88, Try.ntmps88
        go_wp2
        exact bodyPost_ret (results_tmp Try.results88 _ _ _) rfl ⟨by simp [*], H.hb⟩
    · have g1 : (a == 0) = false := beq_eq_false_iff_ne.2 ha
      go_enter Try.func88, Try.ntmps88
      go_wp2
      exact bodyPost_ret (results_tmp Try.results88 _ _ _) rfl ⟨by simp [*], H.hb⟩
  have q2 : ((k.toNat : Int) == 115) = false := nek k2
  by_cases k3 : k = 102
  · subst k3
    rw [show ((UInt8.toNat 102 : Nat) : Int) = 102 from rfl]
    obtain ⟨a, b, s, xs⟩ := x
    have e : fitsB 102 ⟨a, b, s, xs⟩ = (a == 0 && (b == 0 || b == 1)) := by
      rw [Bool.eq_iff_iff]
      simp [fitsB]
    rw [e]
    clear e hC hc hl q1 k1 q2 k2
    simp only at H c0 ⊢
    by_cases ha : a = 0
    · subst ha
      by_cases h1 : b = 0
      · subst h1
        go_enter Try.func88, Try.ntmps88
        go_wp2
        exact bodyPost_ret (results_tmp Try.results88 _ _ _) rfl ⟨by simp [*], H.hb⟩
      · have g1 : (b == 0) = false := beq_eq_false_iff_ne.2 h1
        go_enter Try.func88, Try.ntmps88
        go_wp2
        exact bodyPost_ret (results_tmp Try.results88 _ _ _) rfl ⟨by simp [*], H.hb⟩
    · have g1 : (a == 0) = false := beq_eq_false_iff_ne.2 ha
      go_enter Try.func88, Try.ntmps88
      go_wp2
      exact bodyPost_ret (results_tmp Try.results88 _ _ _) rfl ⟨by simp [*], H.hb⟩
  have q3 : ((k.toNat : Int) == 102) = false := nek k3
  by_cases k4 : k = 116
  · subst k4
    rw [show ((UInt8.toNat 116 : Nat) : Int) = 116 from rfl]
    go_enter Try.func88, Try.ntmps88
    go_wp2
    exact bodyPost_ret (results_tmp Try.results88 _ _ _) rfl ⟨rfl, H.hb⟩
  have q4 : ((k.toNat : Int) == 116) = false := nek k4
  have e : fitsB k x = ((flowRW x).2.2 == 0) := by
    unfold fitsB
    rw [if_neg k1, if_neg k2, if_neg k3, if_neg k4]
  rw [e]
  have HV := Aside0.mk (Rw.read_walk x A c _ (Kd.C_below hC H.hb) hc hl)
  clear e hC hc hl k1 k2 k3 k4
  go_enter Try.func88, Try.ntmps88
  go_upto_region 2 with fail
  generalize w.alloc (.cells #[.int .i64 x.f0, .int .i64 x.f1, .string x.f2, .slice A x.f3.length c] 57) = w1 at H c0 HV ⊢
  go_wp2_with (go_at_call 23; go_loud ((with_reducible refine HV.out.mono ?_); rintro e wq ⟨u, rfl, ⟨A5, c5, rfl, l5, hF5⟩, hq⟩; clear l5 hF5))
  exact bodyPost_ret (results_tmp Try.results88 _ _ _) rfl ⟨rfl, ((H.go hq).alloc _ _).hb⟩
structure AskB where
  op : Int
  run : Int
  node : Int
  tries : Int
  okf : Bool
  person : Int
  role : Int
  till : Int
  caller : Int
  name : ByteArray
  fname : ByteArray
  nodes : List B_
def zB (o : Int) : AskB := ⟨o, 0, 0, 0, false, 0, 0, 0, 0, E0, E0, []⟩
abbrev cellsB (a : AskB) (u : Value) : Array Value := #[.int .i64 a.op, .int .i64 a.run, .int .i64 a.node, .int .i64 a.tries, .bool a.okf, .int .i64 a.person, .int .i64 a.role, .int .i64 a.till, .int .i64 a.caller, .string a.name, .string a.fname, u]
abbrev at_ (l : List W) (i : Nat) : W := l.getD i z57
/-- what values ask for that fit -/
def mkB (o : Int) (l : List W) : AskB :=
  if o = 0 then { zB o with run := (at_ l 0).f1 }
  else if o = 2 then { zB o with run := (at_ l 0).f1, node := (at_ l 1).f1, tries := (at_ l 2).f1, okf := (at_ l 3).f1 == 1 }
  else if o = 3 then { zB o with name := (at_ l 0).f2 }
  else if o = 4 then { zB o with fname := (flowRW (at_ l 0)).1, nodes := (flowRW (at_ l 0)).2.1 }
  else if o = 5 then { zB o with person := (at_ l 0).f1, till := (at_ l 1).f1 }
  else if o = 6 then { zB o with person := (at_ l 0).f1, role := (at_ l 1).f1 }
  else if o = 8 ∨ o = 9 then { zB o with caller := (at_ l 0).f1, name := (at_ l 1).f2 }
  else zB o
/-- do the values fit? -/
def okB (o : Int) (l : List W) : Prop := kindsB o ≠ [45] ∧ (kindsB o).length = l.length ∧ ∀ j, j < l.length → fitsB ((kindsB o).getD j 0) (at_ l j) = true
/-- the first i of them fit -/
def FitTo (o : Int) (l : List W) (i : Nat) : Prop := ∀ j, j < i → fitsB ((kindsB o).getD j 0) (at_ l j) = true
def PostB (w0 : World) (o : Int) (l : List W) (e : Ending) (w' : World) : Prop :=
  (okB o l → ∃ A c, e = .returned (.tuple #[.agg (cellsB (mkB o l) (.slice A (mkB o l).nodes.length c)), .int .i64 0]) ∧ (mkB o l).nodes.length ≤ c ∧ Kd.F k125 w' (fun k => w0.heap.size ≤ k) A (mkB o l).nodes.length (mkB o l).nodes ∧ Below w0.heap.size w0 w')
  ∧ (¬ okB o l → e = .returned (.tuple #[.agg (cellsB (zB 0) (.slice none 0 0)), .int .i64 4]) ∧ Below w0.heap.size w0 w')
theorem post_ok {w0 w' : World} {o : Int} {l : List W} {A : Option Addr} {c : Nat} (a : AskB) (hk : okB o l) (hm : mkB o l = a) (hl : a.nodes.length ≤ c) (hF : Kd.F k125 w' (fun k => w0.heap.size ≤ k) A a.nodes.length a.nodes) (hb : Below w0.heap.size w0 w') : PostB w0 o l (.returned (.tuple #[.agg (cellsB a (.slice A a.nodes.length c)), .int .i64 0])) w' := by
  subst hm
  exact ⟨fun _ => ⟨A, c, rfl, hl, hF, hb⟩, fun h => absurd hk h⟩
theorem atW {w : World} {A : Option Addr} {xs : List W} (h : Kd.C k57 w A xs.length xs) (i : Nat) (hl : i < xs.length) : ∃ ad A3 c3, A = some ad ∧ w.cell? (ad.add (i * 4)) = some (.int .i64 (at_ xs i).f0) ∧ w.cell? ⟨(ad.add (i * 4)).block, (ad.add (i * 4)).off + 1, none⟩ = some (.int .i64 (at_ xs i).f1) ∧ w.cell? ⟨(ad.add (i * 4)).block, (ad.add (i * 4)).off + 2, none⟩ = some (.string (at_ xs i).f2) ∧ w.cell? ⟨(ad.add (i * 4)).block, (ad.add (i * 4)).off + 3, none⟩ = some (.slice A3 (at_ xs i).f3.length c3) ∧ (at_ xs i).f3.length ≤ c3 ∧ Kd.C k57 w A3 (at_ xs i).f3.length (at_ xs i).f3 := by
  obtain ⟨ad, A3, c3, e, x⟩ := at_T57 h (i : Int) (by omega) (by omega)
  have hr : rd_T57 xs (i : Int) = at_ xs i := by
    unfold rd_T57
    rw [Int.toNat_natCast]
  rw [hr, Int.toNat_natCast] at x
  exact ⟨ad, A3, c3, e, x⟩
set_option maxHeartbeats 2000000 in
set_option maxRecDepth 100000 in
theorem read_walk (o : Int) (l : List W) (A : Option Addr) (c : Nat) (w : World) (hC : Kd.C k57 w A l.length l) (hc : l.length ≤ c) (hl : ∀ x ∈ l, limB x = true) :
    Calls Try.prog 45 #[.int .i64 o, .slice A l.length c] w (PostB w o l) := by
  have hu := Try.underlying109
  have hu2 := Try.underlying57
  have hu3 := Try.underlying30
  have H := (St.start w).alloc #[.int .i64 0, .int .i64 0, .int .i64 0, .int .i64 0, .bool false, .int .i64 0, .int .i64 0, .int .i64 0, .int .i64 0, .string ⟨#[]⟩, .string ⟨#[]⟩, .slice none 0 0] 109
  have HC := Aside0.mk hC
  have Hc := Aside0.mk hc
  have HL := Aside0.mk hl
  clear hC hc hl
  go_enter Try.func45, Try.ntmps45
  go_upto_region 1 with fail
  generalize w.alloc (.cells #[.int .i64 0, .int .i64 0, .int .i64 0, .int .i64 0, .bool false, .int .i64 0, .int .i64 0, .int .i64 0, .int .i64 0, .string ⟨#[]⟩, .string ⟨#[]⟩, .slice none 0 0] 109) = w1 at H ⊢
  obtain ⟨g, hg⟩ : ∃ g, w.heap.size = g := ⟨_, rfl⟩
  rw [hg] at H ⊢
  have HG := Aside0.mk hg
  clear hg
  obtain ⟨s, hs⟩ : ∃ s : ByteArray, (⟨(kindsB o).toArray⟩ : ByteArray) = s := ⟨_, rfl⟩
  have HS := Aside0.mk hs
  clear hs
  go_upto_region 2 with (go_at_call 87; go_loud ((with_reducible refine (kinds_walk _ _).mono ?_); rintro e wq ⟨rfl, hq⟩))
  rw [HS.out]
  replace H := H.go hq
  clear hq
  have bad : ∀ {w' : World} {L : List Blk}, ¬ okB o l → St w w' L → PostB w o l (.returned (.tuple #[.agg #[.int .i64 0, .int .i64 0, .int .i64 0, .int .i64 0, .bool false, .int .i64 0, .int .i64 0, .int .i64 0, .int .i64 0, .string ⟨#[]⟩, .string ⟨#[]⟩, .slice none 0 0], .int .i64 4])) w' := fun h hs => ⟨fun k => absurd k h, fun _ => ⟨rfl, hs.hb⟩⟩
  have BAD := Aside0.mk @bad
  clear bad
  by_cases h1 : kindsB o = [45]
  · have e : s = ⟨#[45]⟩ := by rw [← HS.out, h1]
    subst e
    have HN := Aside0.mk (show ¬ okB o l from fun h => h.1 h1)
    clear h1
    have cc := H.c 0 rfl
    have qq := H.q 0 rfl
    go_wp2
    have H2 := H.sets 0 [.int .i64 0, .int .i64 0, .int .i64 0, .int .i64 0, .bool false, .int .i64 0, .int .i64 0, .int .i64 0, .int .i64 0, .string ⟨#[]⟩, .string ⟨#[]⟩, .slice none 0 0] rfl rfl (L' := [(g, #[.int .i64 0, .int .i64 0, .int .i64 0, .int .i64 0, .bool false, .int .i64 0, .int .i64 0, .int .i64 0, .int .i64 0, .string ⟨#[]⟩, .string ⟨#[]⟩, .slice none 0 0], 109)]) rfl
    exact bodyPost_ret (results_ct Try.results45 _ _ g 109 #[.int .i64 0, .int .i64 0, .int .i64 0, .int .i64 0, .bool false, .int .i64 0, .int .i64 0, .int .i64 0, .int .i64 0, .string ⟨#[]⟩, .string ⟨#[]⟩, .slice none 0 0] (0, 0) _ rfl (H2.mem 0 rfl) hu rfl (by kernel_rfl)) rfl (BAD.out HN.out H2)
  have HK := Aside0.mk h1
  have s1 : (s.toList == [45]) = false := by
    rw [beq_eq_false_iff_ne, Plain.toList_data, ← HS.out]
    intro e
    exact h1 (by simpa using e)
  have hsz : s.size = (kindsB o).length := by rw [← HS.out]; show (kindsB o).toArray.size = _; simp
  clear h1
  by_cases h2 : s.size = l.length
  case neg =>
    have HN := Aside0.mk (show ¬ okB o l from fun h => h2 (hsz.trans h.2.1))
    have e1 : ((s.size : Int) != (l.length : Int)) = true := by rw [bne_iff_ne]; omega
    clear h2 hsz
    have cc := H.c 0 rfl
    have qq := H.q 0 rfl
    go_wp2
    have H2 := H.sets 0 [.int .i64 0, .int .i64 0, .int .i64 0, .int .i64 0, .bool false, .int .i64 0, .int .i64 0, .int .i64 0, .int .i64 0, .string ⟨#[]⟩, .string ⟨#[]⟩, .slice none 0 0] rfl rfl (L' := [(g, #[.int .i64 0, .int .i64 0, .int .i64 0, .int .i64 0, .bool false, .int .i64 0, .int .i64 0, .int .i64 0, .int .i64 0, .string ⟨#[]⟩, .string ⟨#[]⟩, .slice none 0 0], 109)]) rfl
    exact bodyPost_ret (results_ct Try.results45 _ _ g 109 #[.int .i64 0, .int .i64 0, .int .i64 0, .int .i64 0, .bool false, .int .i64 0, .int .i64 0, .int .i64 0, .int .i64 0, .string ⟨#[]⟩, .string ⟨#[]⟩, .slice none 0 0] (0, 0) _ rfl (H2.mem 0 rfl) hu rfl (by kernel_rfl)) rfl (BAD.out HN.out H2)
  have e1 : ((s.size : Int) != (l.length : Int)) = false := by rw [bne_eq_false_iff_eq]; omega
  have HZ := Aside0.mk h2
  have HZ2 := Aside0.mk hsz
  clear h2 hsz
  go_upto_region 4 with fail
  clear e1 s1
  have HE := Aside0.mk H
  clear H
  go_wp2
  go_loopw [7] (fun v7 wr => ∃ (i : Nat), v7 = .int .i64 (i : Int) ∧ i ≤ l.length ∧ Aside0 (St w wr [(g, #[.int .i64 0, .int .i64 0, .int .i64 0, .int .i64 0, .bool false, .int .i64 0, .int .i64 0, .int .i64 0, .int .i64 0, .string ⟨#[]⟩, .string ⟨#[]⟩, .slice none 0 0], 109)]) ∧ Aside0 (FitTo o l i)) (fun v7 _ => l.length - (intOf v7).toNat)
  case atStart => exact ⟨0, rfl, Nat.zero_le _, HE, ⟨fun j h => absurd h (Nat.not_lt_zero _)⟩⟩
  case round =>
    clear HE
    obtain ⟨i, rfl, hi, HE, HF⟩ := hrel
    have hbig : l.length ≤ 9223372036854775807 := by have := HC.out.2.1; omega
    have eS : (s.size : Int) = l.length := by have := HZ.out; omega
    by_cases hlt : i < l.length
    · have hli : (i : Int) < (s.size : Int) := by rw [eS]; omega
      have hli2 : (i : Int) < (l.length : Int) := by omega
      have hi0 : (0 : Int) ≤ (i : Int) := by omega
      obtain ⟨ad, A3, c3, rfl, z0, z1, z2, z3, lz, gz⟩ := atW HC.out i hlt
      have HI := Aside0.mk hlt
      have HT := Aside0.mk gz
      have HL3 := Aside0.mk lz
      clear gz lz
      have hx : at_ l i ∈ l := by
        show l.getD i _ ∈ l
        rw [List.getD_eq_getElem?_getD, List.getElem?_eq_getElem hlt]
        exact List.getElem_mem _
      have HX := Aside0.mk (HL.out _ hx)
      have hk : s[i]'(by have := HZ.out; omega) = (kindsB o).getD i 0 := by
        have e : s = ⟨(kindsB o).toArray⟩ := HS.out.symm
        subst e
        rw [List.getD_eq_getElem?_getD, List.getElem?_eq_getElem (by have := HZ.out; have := HZ2.out; omega)]
        rfl
      have HKI := Aside0.mk hk
      have HFI := Aside0.mk (show ∀ y, at_ l i = y → fitsB ((kindsB o).getD i 0) y = true → FitTo o l (i + 1) from fun y hy h j hj => by
        rcases Nat.lt_or_ge j i with h1 | h1
        · exact HF.out j h1
        · obtain rfl : j = i := by omega
          rw [hy]; exact h)
      have HBI := Aside0.mk (show ∀ y, at_ l i = y → fitsB ((kindsB o).getD i 0) y = false → ¬ okB o l from fun y hy h k => by
        have := k.2.2 i hlt
        rw [hy, h] at this
        cases this)
      clear hx hk
      replace z0 := (HE.out.hb.cell (World.block_lt_of_cell? w _ z0)).trans z0
      replace z1 := (HE.out.hb.cell (World.block_lt_of_cell? w _ z1)).trans z1
      replace z2 := (HE.out.hb.cell (World.block_lt_of_cell? w _ z2)).trans z2
      replace z3 := (HE.out.hb.cell (World.block_lt_of_cell? w _ z3)).trans z3
      generalize hy : at_ l i = y at z0 z1 z2 z3 HT HL3 HX
      replace HFI := Aside0.mk (HFI.out y hy)
      replace HBI := Aside0.mk (HBI.out y hy)
      clear hy
      obtain ⟨y0, y1, y2, y3⟩ := y
      simp only at z0 z1 z2 z3 HT HL3
      rw [← HKI.out] at HFI HBI
      have HW := Aside0.mk (fun (w' : World) (hC' : Kd.C k57 w' A3 y3.length y3) => fits_walk (s[i]'(by have := HZ.out; omega)) ⟨y0, y1, y2, y3⟩ A3 c3 w' hC' HL3.out HX.out)
      generalize fitsB (s[i]'(by have := HZ.out; omega)) ⟨y0, y1, y2, y3⟩ = b at HFI HBI HW
      go_upto_region 7 with fail
      go_region_held3 (fun w' => w'.cell? (ad.add (i * 4)) = some (.int .i64 y0) ∧ w'.cell? ⟨(ad.add (i * 4)).block, (ad.add (i * 4)).off + 1, none⟩ = some (.int .i64 y1) ∧ w'.cell? ⟨(ad.add (i * 4)).block, (ad.add (i * 4)).off + 2, none⟩ = some (.string y2) ∧ w'.cell? ⟨(ad.add (i * 4)).block, (ad.add (i * 4)).off + 3, none⟩ = some (.slice A3 y3.length c3)) (go_keep)
        (first | (go_at_call 88; (with_reducible refine (HW.out _ (Kd.C_below HT.out HE.out.drew.hb)).mono ?_); rintro e wq2 ⟨rfl, hq⟩; have HQ := Aside0.mk hq; have t0 := (hq.cell (World.block_lt_of_cell? wr.drew _ z0)).trans z0; have t1 := (hq.cell (World.block_lt_of_cell? wr.drew _ z1)).trans z1; have t2 := (hq.cell (World.block_lt_of_cell? wr.drew _ z2)).trans z2; have t3 := (hq.cell (World.block_lt_of_cell? wr.drew _ z3)).trans z3; clear hq))
      have hE := HE.out.drew.go HQ.out
      have HE2 := Aside0.mk hE
      cases b
      case false =>
        have HN := Aside0.mk (HBI.out rfl)
        have cc := hE.c 0 rfl
        have qq := hE.q 0 rfl
        clear hE z0 z1 z2 z3 t0 t1 t2 t3
        go_wp2
        have H2 := HE2.out.sets 0 [.int .i64 0, .int .i64 0, .int .i64 0, .int .i64 0, .bool false, .int .i64 0, .int .i64 0, .int .i64 0, .int .i64 0, .string ⟨#[]⟩, .string ⟨#[]⟩, .slice none 0 0] rfl rfl (L' := [(g, #[.int .i64 0, .int .i64 0, .int .i64 0, .int .i64 0, .bool false, .int .i64 0, .int .i64 0, .int .i64 0, .int .i64 0, .string ⟨#[]⟩, .string ⟨#[]⟩, .slice none 0 0], 109)]) rfl
        exact bodyPost_ret (results_ct Try.results45 _ _ g 109 #[.int .i64 0, .int .i64 0, .int .i64 0, .int .i64 0, .bool false, .int .i64 0, .int .i64 0, .int .i64 0, .int .i64 0, .string ⟨#[]⟩, .string ⟨#[]⟩, .slice none 0 0] (0, 0) _ rfl (H2.mem 0 rfl) hu rfl (by kernel_rfl)) rfl (BAD.out HN.out H2)
      have HN := Aside0.mk (HFI.out rfl)
      clear hE z0 z1 z2 z3 t0 t1 t2 t3
      go_wp2
      go_roundw
      case rel => exact ⟨i + 1, by go_num, by have := HI.out; omega, HN⟩
      case measure => simp [intOf]; have := HI.out; omega
    · obtain rfl : i = l.length := by omega
      have hge : ¬ ((l.length : Int) < (s.size : Int)) := by rw [eS]; omega
      go_upto_region 11 with fail
      have H2 := HE.out.alloc #[.int .i64 o, .int .i64 0, .int .i64 0, .int .i64 0, .bool false, .int .i64 0, .int .i64 0, .int .i64 0, .int .i64 0, .string ⟨#[]⟩, .string ⟨#[]⟩, .slice none 0 0] 109
      generalize wr.alloc (.cells #[.int .i64 o, .int .i64 0, .int .i64 0, .int .i64 0, .bool false, .int .i64 0, .int .i64 0, .int .i64 0, .int .i64 0, .string ⟨#[]⟩, .string ⟨#[]⟩, .slice none 0 0] 109) = w5 at H2 ⊢
      generalize wr.heap.size = g5 at H2 ⊢
      have OK := Aside0.mk (show okB o l from ⟨HK.out, HZ2.out.symm.trans HZ.out, HF.out⟩)
      have hlen : l.length = (kindsB o).length := HZ.out.symm.trans HZ2.out
      clear HE HF HK HZ HZ2 hge eS hlt hi hbig BAD HS HG
      by_cases k0 : o = 0
      · subst k0
        obtain ⟨m1, rfl⟩ : ∃ m1, l = [m1] := by
          match l, hlen with
          | [m1], _ => exact ⟨m1, rfl⟩
        have hL0 : [m1].length = 1 := rfl
        obtain ⟨ad0, A0_, c0_, e0, zz, p01, p02, zz3, zz4, zz5⟩ := atW HC.out 0 (by simp)
        simp only [Nat.zero_mul, Nat.reduceMul, Addr.add_zero', Addr.add_succ', Nat.add_assoc, Nat.reduceAdd] at p01 p02
        have P0 := Aside0.mk (show w.cell? ⟨ad0.block, ad0.off + 1, none⟩ = some (.int .i64 m1.f1) from p01)
        clear zz zz3 zz4 zz5 p01 p02
        subst e0
        go_upto_region 13 with fail
        have p0 := (H2.hb.cell (World.block_lt_of_cell? w _ P0.out)).trans P0.out
        have cc := H2.c 0 rfl
        have qq := H2.q 0 rfl
        go_upto_region 34 with fail
        replace H2 := H2.set 0 1 (.int .i64 m1.f1) rfl (L' := [(g5, #[.int .i64 0, .int .i64 m1.f1, .int .i64 0, .int .i64 0, .bool false, .int .i64 0, .int .i64 0, .int .i64 0, .int .i64 0, .string ⟨#[]⟩, .string ⟨#[]⟩, .slice none 0 0], 109), (g, #[.int .i64 0, .int .i64 0, .int .i64 0, .int .i64 0, .bool false, .int .i64 0, .int .i64 0, .int .i64 0, .int .i64 0, .string ⟨#[]⟩, .string ⟨#[]⟩, .slice none 0 0], 109)]) rfl
        clear p0 cc qq
        generalize w5.setCell ⟨g5, 1, none⟩ (.int .i64 m1.f1) = w5 at H2 ⊢
        have cc := H2.c 0 rfl
        have c2 := H2.c 1 rfl
        have q2 := H2.q 1 rfl
        have ng : g ≠ g5 := Nat.ne_of_lt (H2.gt 0 1 (by decide) rfl rfl)
        have ng' := ng.symm
        go_wp2
        have H3 := H2.sets 1 [.int .i64 0, .int .i64 m1.f1, .int .i64 0, .int .i64 0, .bool false, .int .i64 0, .int .i64 0, .int .i64 0, .int .i64 0, .string ⟨#[]⟩, .string ⟨#[]⟩, .slice none 0 0] rfl rfl (L' := [(g5, #[.int .i64 0, .int .i64 m1.f1, .int .i64 0, .int .i64 0, .bool false, .int .i64 0, .int .i64 0, .int .i64 0, .int .i64 0, .string ⟨#[]⟩, .string ⟨#[]⟩, .slice none 0 0], 109), (g, #[.int .i64 0, .int .i64 m1.f1, .int .i64 0, .int .i64 0, .bool false, .int .i64 0, .int .i64 0, .int .i64 0, .int .i64 0, .string ⟨#[]⟩, .string ⟨#[]⟩, .slice none 0 0], 109)]) rfl
        exact bodyPost_ret (results_ct Try.results45 _ _ g 109 #[.int .i64 0, .int .i64 m1.f1, .int .i64 0, .int .i64 0, .bool false, .int .i64 0, .int .i64 0, .int .i64 0, .int .i64 0, .string ⟨#[]⟩, .string ⟨#[]⟩, .slice none 0 0] (0, 0) _ rfl (H3.mem 1 rfl) hu rfl (by kernel_rfl)) rfl (post_ok (A := none) (c := 0) ⟨0, m1.f1, 0, 0, false, 0, 0, 0, 0, E0, E0, []⟩ OK.out rfl (Nat.le_refl _) (Kd.F_nil _ _ _) H3.hb)
      by_cases k2 : o = 2
      · subst k2
        obtain ⟨m1, m2, m3, m4, rfl⟩ : ∃ m1 m2 m3 m4, l = [m1, m2, m3, m4] := by
          match l, hlen with
          | [m1, m2, m3, m4], _ => exact ⟨m1, m2, m3, m4, rfl⟩
        have hL0 : [m1, m2, m3, m4].length = 4 := rfl
        obtain ⟨ad0, A0_, c0_, e0, zz, p01, p02, zz3, zz4, zz5⟩ := atW HC.out 0 (by simp)
        simp only [Nat.zero_mul, Nat.reduceMul, Addr.add_zero', Addr.add_succ', Nat.add_assoc, Nat.reduceAdd] at p01 p02
        have P0 := Aside0.mk (show w.cell? ⟨ad0.block, ad0.off + 1, none⟩ = some (.int .i64 m1.f1) from p01)
        clear zz zz3 zz4 zz5 p01 p02
        obtain ⟨ad1, A1_, c1_, e1, zz, p11, p12, zz3, zz4, zz5⟩ := atW HC.out 1 (by simp)
        obtain rfl : ad0 = ad1 := by rw [e0] at e1; exact Option.some.inj e1
        simp only [Nat.zero_mul, Nat.reduceMul, Addr.add_zero', Addr.add_succ', Nat.add_assoc, Nat.reduceAdd] at p11 p12
        have P1 := Aside0.mk (show w.cell? ⟨ad0.block, ad0.off + 5, none⟩ = some (.int .i64 m2.f1) from p11)
        clear zz zz3 zz4 zz5 p11 p12
        obtain ⟨ad2, A2_, c2_, e2, zz, p21, p22, zz3, zz4, zz5⟩ := atW HC.out 2 (by simp)
        obtain rfl : ad0 = ad2 := by rw [e0] at e2; exact Option.some.inj e2
        simp only [Nat.zero_mul, Nat.reduceMul, Addr.add_zero', Addr.add_succ', Nat.add_assoc, Nat.reduceAdd] at p21 p22
        have P2 := Aside0.mk (show w.cell? ⟨ad0.block, ad0.off + 9, none⟩ = some (.int .i64 m3.f1) from p21)
        clear zz zz3 zz4 zz5 p21 p22
        obtain ⟨ad3, A3_, c3_, e3, zz, p31, p32, zz3, zz4, zz5⟩ := atW HC.out 3 (by simp)
        obtain rfl : ad0 = ad3 := by rw [e0] at e3; exact Option.some.inj e3
        simp only [Nat.zero_mul, Nat.reduceMul, Addr.add_zero', Addr.add_succ', Nat.add_assoc, Nat.reduceAdd] at p31 p32
        have P3 := Aside0.mk (show w.cell? ⟨ad0.block, ad0.off + 13, none⟩ = some (.int .i64 m4.f1) from p31)
        clear zz zz3 zz4 zz5 p31 p32
        subst e0
        go_upto_region 15 with fail
        have p0 := (H2.hb.cell (World.block_lt_of_cell? w _ P0.out)).trans P0.out
        have cc := H2.c 0 rfl
        have qq := H2.q 0 rfl
        go_upto_region 16 with fail
        replace H2 := H2.set 0 1 (.int .i64 m1.f1) rfl (L' := [(g5, #[.int .i64 2, .int .i64 m1.f1, .int .i64 0, .int .i64 0, .bool false, .int .i64 0, .int .i64 0, .int .i64 0, .int .i64 0, .string ⟨#[]⟩, .string ⟨#[]⟩, .slice none 0 0], 109), (g, #[.int .i64 0, .int .i64 0, .int .i64 0, .int .i64 0, .bool false, .int .i64 0, .int .i64 0, .int .i64 0, .int .i64 0, .string ⟨#[]⟩, .string ⟨#[]⟩, .slice none 0 0], 109)]) rfl
        clear p0 cc qq
        generalize w5.setCell ⟨g5, 1, none⟩ (.int .i64 m1.f1) = w5 at H2 ⊢
        have p0 := (H2.hb.cell (World.block_lt_of_cell? w _ P1.out)).trans P1.out
        have cc := H2.c 0 rfl
        have qq := H2.q 0 rfl
        go_upto_region 17 with fail
        replace H2 := H2.set 0 2 (.int .i64 m2.f1) rfl (L' := [(g5, #[.int .i64 2, .int .i64 m1.f1, .int .i64 m2.f1, .int .i64 0, .bool false, .int .i64 0, .int .i64 0, .int .i64 0, .int .i64 0, .string ⟨#[]⟩, .string ⟨#[]⟩, .slice none 0 0], 109), (g, #[.int .i64 0, .int .i64 0, .int .i64 0, .int .i64 0, .bool false, .int .i64 0, .int .i64 0, .int .i64 0, .int .i64 0, .string ⟨#[]⟩, .string ⟨#[]⟩, .slice none 0 0], 109)]) rfl
        clear p0 cc qq
        generalize w5.setCell ⟨g5, 2, none⟩ (.int .i64 m2.f1) = w5 at H2 ⊢
        have p0 := (H2.hb.cell (World.block_lt_of_cell? w _ P2.out)).trans P2.out
        have cc := H2.c 0 rfl
        have qq := H2.q 0 rfl
        go_upto_region 18 with fail
        replace H2 := H2.set 0 3 (.int .i64 m3.f1) rfl (L' := [(g5, #[.int .i64 2, .int .i64 m1.f1, .int .i64 m2.f1, .int .i64 m3.f1, .bool false, .int .i64 0, .int .i64 0, .int .i64 0, .int .i64 0, .string ⟨#[]⟩, .string ⟨#[]⟩, .slice none 0 0], 109), (g, #[.int .i64 0, .int .i64 0, .int .i64 0, .int .i64 0, .bool false, .int .i64 0, .int .i64 0, .int .i64 0, .int .i64 0, .string ⟨#[]⟩, .string ⟨#[]⟩, .slice none 0 0], 109)]) rfl
        clear p0 cc qq
        generalize w5.setCell ⟨g5, 3, none⟩ (.int .i64 m3.f1) = w5 at H2 ⊢
        have p0 := (H2.hb.cell (World.block_lt_of_cell? w _ P3.out)).trans P3.out
        have cc := H2.c 0 rfl
        have qq := H2.q 0 rfl
        go_upto_region 34 with fail
        replace H2 := H2.set 0 4 (.bool (m4.f1 == 1)) rfl (L' := [(g5, #[.int .i64 2, .int .i64 m1.f1, .int .i64 m2.f1, .int .i64 m3.f1, .bool (m4.f1 == 1), .int .i64 0, .int .i64 0, .int .i64 0, .int .i64 0, .string ⟨#[]⟩, .string ⟨#[]⟩, .slice none 0 0], 109), (g, #[.int .i64 0, .int .i64 0, .int .i64 0, .int .i64 0, .bool false, .int .i64 0, .int .i64 0, .int .i64 0, .int .i64 0, .string ⟨#[]⟩, .string ⟨#[]⟩, .slice none 0 0], 109)]) rfl
        clear p0 cc qq
        generalize w5.setCell ⟨g5, 4, none⟩ (.bool (m4.f1 == 1)) = w5 at H2 ⊢
        have cc := H2.c 0 rfl
        have c2 := H2.c 1 rfl
        have q2 := H2.q 1 rfl
        have ng : g ≠ g5 := Nat.ne_of_lt (H2.gt 0 1 (by decide) rfl rfl)
        have ng' := ng.symm
        go_wp2
        have H3 := H2.sets 1 [.int .i64 2, .int .i64 m1.f1, .int .i64 m2.f1, .int .i64 m3.f1, .bool (m4.f1 == 1), .int .i64 0, .int .i64 0, .int .i64 0, .int .i64 0, .string ⟨#[]⟩, .string ⟨#[]⟩, .slice none 0 0] rfl rfl (L' := [(g5, #[.int .i64 2, .int .i64 m1.f1, .int .i64 m2.f1, .int .i64 m3.f1, .bool (m4.f1 == 1), .int .i64 0, .int .i64 0, .int .i64 0, .int .i64 0, .string ⟨#[]⟩, .string ⟨#[]⟩, .slice none 0 0], 109), (g, #[.int .i64 2, .int .i64 m1.f1, .int .i64 m2.f1, .int .i64 m3.f1, .bool (m4.f1 == 1), .int .i64 0, .int .i64 0, .int .i64 0, .int .i64 0, .string ⟨#[]⟩, .string ⟨#[]⟩, .slice none 0 0], 109)]) rfl
        exact bodyPost_ret (results_ct Try.results45 _ _ g 109 #[.int .i64 2, .int .i64 m1.f1, .int .i64 m2.f1, .int .i64 m3.f1, .bool (m4.f1 == 1), .int .i64 0, .int .i64 0, .int .i64 0, .int .i64 0, .string ⟨#[]⟩, .string ⟨#[]⟩, .slice none 0 0] (0, 0) _ rfl (H3.mem 1 rfl) hu rfl (by kernel_rfl)) rfl (post_ok (A := none) (c := 0) ⟨2, m1.f1, m2.f1, m3.f1, (m4.f1 == 1), 0, 0, 0, 0, E0, E0, []⟩ OK.out rfl (Nat.le_refl _) (Kd.F_nil _ _ _) H3.hb)
      by_cases k3 : o = 3
      · subst k3
        obtain ⟨m1, rfl⟩ : ∃ m1, l = [m1] := by
          match l, hlen with
          | [m1], _ => exact ⟨m1, rfl⟩
        have hL0 : [m1].length = 1 := rfl
        obtain ⟨ad0, A0_, c0_, e0, zz, p01, p02, zz3, zz4, zz5⟩ := atW HC.out 0 (by simp)
        simp only [Nat.zero_mul, Nat.reduceMul, Addr.add_zero', Addr.add_succ', Nat.add_assoc, Nat.reduceAdd] at p01 p02
        have P0 := Aside0.mk (show w.cell? ⟨ad0.block, ad0.off + 2, none⟩ = some (.string m1.f2) from p02)
        clear zz zz3 zz4 zz5 p01 p02
        subst e0
        go_upto_region 20 with fail
        have p0 := (H2.hb.cell (World.block_lt_of_cell? w _ P0.out)).trans P0.out
        have cc := H2.c 0 rfl
        have qq := H2.q 0 rfl
        go_upto_region 34 with fail
        replace H2 := H2.set 0 9 (.string m1.f2) rfl (L' := [(g5, #[.int .i64 3, .int .i64 0, .int .i64 0, .int .i64 0, .bool false, .int .i64 0, .int .i64 0, .int .i64 0, .int .i64 0, .string m1.f2, .string ⟨#[]⟩, .slice none 0 0], 109), (g, #[.int .i64 0, .int .i64 0, .int .i64 0, .int .i64 0, .bool false, .int .i64 0, .int .i64 0, .int .i64 0, .int .i64 0, .string ⟨#[]⟩, .string ⟨#[]⟩, .slice none 0 0], 109)]) rfl
        clear p0 cc qq
        generalize w5.setCell ⟨g5, 9, none⟩ (.string m1.f2) = w5 at H2 ⊢
        have cc := H2.c 0 rfl
        have c2 := H2.c 1 rfl
        have q2 := H2.q 1 rfl
        have ng : g ≠ g5 := Nat.ne_of_lt (H2.gt 0 1 (by decide) rfl rfl)
        have ng' := ng.symm
        go_wp2
        have H3 := H2.sets 1 [.int .i64 3, .int .i64 0, .int .i64 0, .int .i64 0, .bool false, .int .i64 0, .int .i64 0, .int .i64 0, .int .i64 0, .string m1.f2, .string ⟨#[]⟩, .slice none 0 0] rfl rfl (L' := [(g5, #[.int .i64 3, .int .i64 0, .int .i64 0, .int .i64 0, .bool false, .int .i64 0, .int .i64 0, .int .i64 0, .int .i64 0, .string m1.f2, .string ⟨#[]⟩, .slice none 0 0], 109), (g, #[.int .i64 3, .int .i64 0, .int .i64 0, .int .i64 0, .bool false, .int .i64 0, .int .i64 0, .int .i64 0, .int .i64 0, .string m1.f2, .string ⟨#[]⟩, .slice none 0 0], 109)]) rfl
        exact bodyPost_ret (results_ct Try.results45 _ _ g 109 #[.int .i64 3, .int .i64 0, .int .i64 0, .int .i64 0, .bool false, .int .i64 0, .int .i64 0, .int .i64 0, .int .i64 0, .string m1.f2, .string ⟨#[]⟩, .slice none 0 0] (0, 0) _ rfl (H3.mem 1 rfl) hu rfl (by kernel_rfl)) rfl (post_ok (A := none) (c := 0) ⟨3, 0, 0, 0, false, 0, 0, 0, 0, m1.f2, E0, []⟩ OK.out rfl (Nat.le_refl _) (Kd.F_nil _ _ _) H3.hb)
      by_cases k5 : o = 5
      · subst k5
        obtain ⟨m1, m2, rfl⟩ : ∃ m1 m2, l = [m1, m2] := by
          match l, hlen with
          | [m1, m2], _ => exact ⟨m1, m2, rfl⟩
        have hL0 : [m1, m2].length = 2 := rfl
        obtain ⟨ad0, A0_, c0_, e0, zz, p01, p02, zz3, zz4, zz5⟩ := atW HC.out 0 (by simp)
        simp only [Nat.zero_mul, Nat.reduceMul, Addr.add_zero', Addr.add_succ', Nat.add_assoc, Nat.reduceAdd] at p01 p02
        have P0 := Aside0.mk (show w.cell? ⟨ad0.block, ad0.off + 1, none⟩ = some (.int .i64 m1.f1) from p01)
        clear zz zz3 zz4 zz5 p01 p02
        obtain ⟨ad1, A1_, c1_, e1, zz, p11, p12, zz3, zz4, zz5⟩ := atW HC.out 1 (by simp)
        obtain rfl : ad0 = ad1 := by rw [e0] at e1; exact Option.some.inj e1
        simp only [Nat.zero_mul, Nat.reduceMul, Addr.add_zero', Addr.add_succ', Nat.add_assoc, Nat.reduceAdd] at p11 p12
        have P1 := Aside0.mk (show w.cell? ⟨ad0.block, ad0.off + 5, none⟩ = some (.int .i64 m2.f1) from p11)
        clear zz zz3 zz4 zz5 p11 p12
        subst e0
        go_upto_region 25 with fail
        have p0 := (H2.hb.cell (World.block_lt_of_cell? w _ P0.out)).trans P0.out
        have cc := H2.c 0 rfl
        have qq := H2.q 0 rfl
        go_upto_region 26 with fail
        replace H2 := H2.set 0 5 (.int .i64 m1.f1) rfl (L' := [(g5, #[.int .i64 5, .int .i64 0, .int .i64 0, .int .i64 0, .bool false, .int .i64 m1.f1, .int .i64 0, .int .i64 0, .int .i64 0, .string ⟨#[]⟩, .string ⟨#[]⟩, .slice none 0 0], 109), (g, #[.int .i64 0, .int .i64 0, .int .i64 0, .int .i64 0, .bool false, .int .i64 0, .int .i64 0, .int .i64 0, .int .i64 0, .string ⟨#[]⟩, .string ⟨#[]⟩, .slice none 0 0], 109)]) rfl
        clear p0 cc qq
        generalize w5.setCell ⟨g5, 5, none⟩ (.int .i64 m1.f1) = w5 at H2 ⊢
        have p0 := (H2.hb.cell (World.block_lt_of_cell? w _ P1.out)).trans P1.out
        have cc := H2.c 0 rfl
        have qq := H2.q 0 rfl
        go_upto_region 34 with fail
        replace H2 := H2.set 0 7 (.int .i64 m2.f1) rfl (L' := [(g5, #[.int .i64 5, .int .i64 0, .int .i64 0, .int .i64 0, .bool false, .int .i64 m1.f1, .int .i64 0, .int .i64 m2.f1, .int .i64 0, .string ⟨#[]⟩, .string ⟨#[]⟩, .slice none 0 0], 109), (g, #[.int .i64 0, .int .i64 0, .int .i64 0, .int .i64 0, .bool false, .int .i64 0, .int .i64 0, .int .i64 0, .int .i64 0, .string ⟨#[]⟩, .string ⟨#[]⟩, .slice none 0 0], 109)]) rfl
        clear p0 cc qq
        generalize w5.setCell ⟨g5, 7, none⟩ (.int .i64 m2.f1) = w5 at H2 ⊢
        have cc := H2.c 0 rfl
        have c2 := H2.c 1 rfl
        have q2 := H2.q 1 rfl
        have ng : g ≠ g5 := Nat.ne_of_lt (H2.gt 0 1 (by decide) rfl rfl)
        have ng' := ng.symm
        go_wp2
        have H3 := H2.sets 1 [.int .i64 5, .int .i64 0, .int .i64 0, .int .i64 0, .bool false, .int .i64 m1.f1, .int .i64 0, .int .i64 m2.f1, .int .i64 0, .string ⟨#[]⟩, .string ⟨#[]⟩, .slice none 0 0] rfl rfl (L' := [(g5, #[.int .i64 5, .int .i64 0, .int .i64 0, .int .i64 0, .bool false, .int .i64 m1.f1, .int .i64 0, .int .i64 m2.f1, .int .i64 0, .string ⟨#[]⟩, .string ⟨#[]⟩, .slice none 0 0], 109), (g, #[.int .i64 5, .int .i64 0, .int .i64 0, .int .i64 0, .bool false, .int .i64 m1.f1, .int .i64 0, .int .i64 m2.f1, .int .i64 0, .string ⟨#[]⟩, .string ⟨#[]⟩, .slice none 0 0], 109)]) rfl
        exact bodyPost_ret (results_ct Try.results45 _ _ g 109 #[.int .i64 5, .int .i64 0, .int .i64 0, .int .i64 0, .bool false, .int .i64 m1.f1, .int .i64 0, .int .i64 m2.f1, .int .i64 0, .string ⟨#[]⟩, .string ⟨#[]⟩, .slice none 0 0] (0, 0) _ rfl (H3.mem 1 rfl) hu rfl (by kernel_rfl)) rfl (post_ok (A := none) (c := 0) ⟨5, 0, 0, 0, false, m1.f1, 0, m2.f1, 0, E0, E0, []⟩ OK.out rfl (Nat.le_refl _) (Kd.F_nil _ _ _) H3.hb)
      by_cases k6 : o = 6
      · subst k6
        obtain ⟨m1, m2, rfl⟩ : ∃ m1 m2, l = [m1, m2] := by
          match l, hlen with
          | [m1, m2], _ => exact ⟨m1, m2, rfl⟩
        have hL0 : [m1, m2].length = 2 := rfl
        obtain ⟨ad0, A0_, c0_, e0, zz, p01, p02, zz3, zz4, zz5⟩ := atW HC.out 0 (by simp)
        simp only [Nat.zero_mul, Nat.reduceMul, Addr.add_zero', Addr.add_succ', Nat.add_assoc, Nat.reduceAdd] at p01 p02
        have P0 := Aside0.mk (show w.cell? ⟨ad0.block, ad0.off + 1, none⟩ = some (.int .i64 m1.f1) from p01)
        clear zz zz3 zz4 zz5 p01 p02
        obtain ⟨ad1, A1_, c1_, e1, zz, p11, p12, zz3, zz4, zz5⟩ := atW HC.out 1 (by simp)
        obtain rfl : ad0 = ad1 := by rw [e0] at e1; exact Option.some.inj e1
        simp only [Nat.zero_mul, Nat.reduceMul, Addr.add_zero', Addr.add_succ', Nat.add_assoc, Nat.reduceAdd] at p11 p12
        have P1 := Aside0.mk (show w.cell? ⟨ad0.block, ad0.off + 5, none⟩ = some (.int .i64 m2.f1) from p11)
        clear zz zz3 zz4 zz5 p11 p12
        subst e0
        go_upto_region 28 with fail
        have p0 := (H2.hb.cell (World.block_lt_of_cell? w _ P0.out)).trans P0.out
        have cc := H2.c 0 rfl
        have qq := H2.q 0 rfl
        go_upto_region 29 with fail
        replace H2 := H2.set 0 5 (.int .i64 m1.f1) rfl (L' := [(g5, #[.int .i64 6, .int .i64 0, .int .i64 0, .int .i64 0, .bool false, .int .i64 m1.f1, .int .i64 0, .int .i64 0, .int .i64 0, .string ⟨#[]⟩, .string ⟨#[]⟩, .slice none 0 0], 109), (g, #[.int .i64 0, .int .i64 0, .int .i64 0, .int .i64 0, .bool false, .int .i64 0, .int .i64 0, .int .i64 0, .int .i64 0, .string ⟨#[]⟩, .string ⟨#[]⟩, .slice none 0 0], 109)]) rfl
        clear p0 cc qq
        generalize w5.setCell ⟨g5, 5, none⟩ (.int .i64 m1.f1) = w5 at H2 ⊢
        have p0 := (H2.hb.cell (World.block_lt_of_cell? w _ P1.out)).trans P1.out
        have cc := H2.c 0 rfl
        have qq := H2.q 0 rfl
        go_upto_region 34 with fail
        replace H2 := H2.set 0 6 (.int .i64 m2.f1) rfl (L' := [(g5, #[.int .i64 6, .int .i64 0, .int .i64 0, .int .i64 0, .bool false, .int .i64 m1.f1, .int .i64 m2.f1, .int .i64 0, .int .i64 0, .string ⟨#[]⟩, .string ⟨#[]⟩, .slice none 0 0], 109), (g, #[.int .i64 0, .int .i64 0, .int .i64 0, .int .i64 0, .bool false, .int .i64 0, .int .i64 0, .int .i64 0, .int .i64 0, .string ⟨#[]⟩, .string ⟨#[]⟩, .slice none 0 0], 109)]) rfl
        clear p0 cc qq
        generalize w5.setCell ⟨g5, 6, none⟩ (.int .i64 m2.f1) = w5 at H2 ⊢
        have cc := H2.c 0 rfl
        have c2 := H2.c 1 rfl
        have q2 := H2.q 1 rfl
        have ng : g ≠ g5 := Nat.ne_of_lt (H2.gt 0 1 (by decide) rfl rfl)
        have ng' := ng.symm
        go_wp2
        have H3 := H2.sets 1 [.int .i64 6, .int .i64 0, .int .i64 0, .int .i64 0, .bool false, .int .i64 m1.f1, .int .i64 m2.f1, .int .i64 0, .int .i64 0, .string ⟨#[]⟩, .string ⟨#[]⟩, .slice none 0 0] rfl rfl (L' := [(g5, #[.int .i64 6, .int .i64 0, .int .i64 0, .int .i64 0, .bool false, .int .i64 m1.f1, .int .i64 m2.f1, .int .i64 0, .int .i64 0, .string ⟨#[]⟩, .string ⟨#[]⟩, .slice none 0 0], 109), (g, #[.int .i64 6, .int .i64 0, .int .i64 0, .int .i64 0, .bool false, .int .i64 m1.f1, .int .i64 m2.f1, .int .i64 0, .int .i64 0, .string ⟨#[]⟩, .string ⟨#[]⟩, .slice none 0 0], 109)]) rfl
        exact bodyPost_ret (results_ct Try.results45 _ _ g 109 #[.int .i64 6, .int .i64 0, .int .i64 0, .int .i64 0, .bool false, .int .i64 m1.f1, .int .i64 m2.f1, .int .i64 0, .int .i64 0, .string ⟨#[]⟩, .string ⟨#[]⟩, .slice none 0 0] (0, 0) _ rfl (H3.mem 1 rfl) hu rfl (by kernel_rfl)) rfl (post_ok (A := none) (c := 0) ⟨6, 0, 0, 0, false, m1.f1, m2.f1, 0, 0, E0, E0, []⟩ OK.out rfl (Nat.le_refl _) (Kd.F_nil _ _ _) H3.hb)
      by_cases k8 : o = 8
      · subst k8
        obtain ⟨m1, m2, rfl⟩ : ∃ m1 m2, l = [m1, m2] := by
          match l, hlen with
          | [m1, m2], _ => exact ⟨m1, m2, rfl⟩
        have hL0 : [m1, m2].length = 2 := rfl
        obtain ⟨ad0, A0_, c0_, e0, zz, p01, p02, zz3, zz4, zz5⟩ := atW HC.out 0 (by simp)
        simp only [Nat.zero_mul, Nat.reduceMul, Addr.add_zero', Addr.add_succ', Nat.add_assoc, Nat.reduceAdd] at p01 p02
        have P0 := Aside0.mk (show w.cell? ⟨ad0.block, ad0.off + 1, none⟩ = some (.int .i64 m1.f1) from p01)
        clear zz zz3 zz4 zz5 p01 p02
        obtain ⟨ad1, A1_, c1_, e1, zz, p11, p12, zz3, zz4, zz5⟩ := atW HC.out 1 (by simp)
        obtain rfl : ad0 = ad1 := by rw [e0] at e1; exact Option.some.inj e1
        simp only [Nat.zero_mul, Nat.reduceMul, Addr.add_zero', Addr.add_succ', Nat.add_assoc, Nat.reduceAdd] at p11 p12
        have P1 := Aside0.mk (show w.cell? ⟨ad0.block, ad0.off + 6, none⟩ = some (.string m2.f2) from p12)
        clear zz zz3 zz4 zz5 p11 p12
        subst e0
        go_upto_region 32 with fail
        have p0 := (H2.hb.cell (World.block_lt_of_cell? w _ P0.out)).trans P0.out
        have cc := H2.c 0 rfl
        have qq := H2.q 0 rfl
        go_upto_region 33 with fail
        replace H2 := H2.set 0 8 (.int .i64 m1.f1) rfl (L' := [(g5, #[.int .i64 8, .int .i64 0, .int .i64 0, .int .i64 0, .bool false, .int .i64 0, .int .i64 0, .int .i64 0, .int .i64 m1.f1, .string ⟨#[]⟩, .string ⟨#[]⟩, .slice none 0 0], 109), (g, #[.int .i64 0, .int .i64 0, .int .i64 0, .int .i64 0, .bool false, .int .i64 0, .int .i64 0, .int .i64 0, .int .i64 0, .string ⟨#[]⟩, .string ⟨#[]⟩, .slice none 0 0], 109)]) rfl
        clear p0 cc qq
        generalize w5.setCell ⟨g5, 8, none⟩ (.int .i64 m1.f1) = w5 at H2 ⊢
        have p0 := (H2.hb.cell (World.block_lt_of_cell? w _ P1.out)).trans P1.out
        have cc := H2.c 0 rfl
        have qq := H2.q 0 rfl
        go_upto_region 34 with fail
        replace H2 := H2.set 0 9 (.string m2.f2) rfl (L' := [(g5, #[.int .i64 8, .int .i64 0, .int .i64 0, .int .i64 0, .bool false, .int .i64 0, .int .i64 0, .int .i64 0, .int .i64 m1.f1, .string m2.f2, .string ⟨#[]⟩, .slice none 0 0], 109), (g, #[.int .i64 0, .int .i64 0, .int .i64 0, .int .i64 0, .bool false, .int .i64 0, .int .i64 0, .int .i64 0, .int .i64 0, .string ⟨#[]⟩, .string ⟨#[]⟩, .slice none 0 0], 109)]) rfl
        clear p0 cc qq
        generalize w5.setCell ⟨g5, 9, none⟩ (.string m2.f2) = w5 at H2 ⊢
        have cc := H2.c 0 rfl
        have c2 := H2.c 1 rfl
        have q2 := H2.q 1 rfl
        have ng : g ≠ g5 := Nat.ne_of_lt (H2.gt 0 1 (by decide) rfl rfl)
        have ng' := ng.symm
        go_wp2
        have H3 := H2.sets 1 [.int .i64 8, .int .i64 0, .int .i64 0, .int .i64 0, .bool false, .int .i64 0, .int .i64 0, .int .i64 0, .int .i64 m1.f1, .string m2.f2, .string ⟨#[]⟩, .slice none 0 0] rfl rfl (L' := [(g5, #[.int .i64 8, .int .i64 0, .int .i64 0, .int .i64 0, .bool false, .int .i64 0, .int .i64 0, .int .i64 0, .int .i64 m1.f1, .string m2.f2, .string ⟨#[]⟩, .slice none 0 0], 109), (g, #[.int .i64 8, .int .i64 0, .int .i64 0, .int .i64 0, .bool false, .int .i64 0, .int .i64 0, .int .i64 0, .int .i64 m1.f1, .string m2.f2, .string ⟨#[]⟩, .slice none 0 0], 109)]) rfl
        exact bodyPost_ret (results_ct Try.results45 _ _ g 109 #[.int .i64 8, .int .i64 0, .int .i64 0, .int .i64 0, .bool false, .int .i64 0, .int .i64 0, .int .i64 0, .int .i64 m1.f1, .string m2.f2, .string ⟨#[]⟩, .slice none 0 0] (0, 0) _ rfl (H3.mem 1 rfl) hu rfl (by kernel_rfl)) rfl (post_ok (A := none) (c := 0) ⟨8, 0, 0, 0, false, 0, 0, 0, m1.f1, m2.f2, E0, []⟩ OK.out rfl (Nat.le_refl _) (Kd.F_nil _ _ _) H3.hb)
      by_cases k9 : o = 9
      · subst k9
        obtain ⟨m1, m2, rfl⟩ : ∃ m1 m2, l = [m1, m2] := by
          match l, hlen with
          | [m1, m2], _ => exact ⟨m1, m2, rfl⟩
        have hL0 : [m1, m2].length = 2 := rfl
        obtain ⟨ad0, A0_, c0_, e0, zz, p01, p02, zz3, zz4, zz5⟩ := atW HC.out 0 (by simp)
        simp only [Nat.zero_mul, Nat.reduceMul, Addr.add_zero', Addr.add_succ', Nat.add_assoc, Nat.reduceAdd] at p01 p02
        have P0 := Aside0.mk (show w.cell? ⟨ad0.block, ad0.off + 1, none⟩ = some (.int .i64 m1.f1) from p01)
        clear zz zz3 zz4 zz5 p01 p02
        obtain ⟨ad1, A1_, c1_, e1, zz, p11, p12, zz3, zz4, zz5⟩ := atW HC.out 1 (by simp)
        obtain rfl : ad0 = ad1 := by rw [e0] at e1; exact Option.some.inj e1
        simp only [Nat.zero_mul, Nat.reduceMul, Addr.add_zero', Addr.add_succ', Nat.add_assoc, Nat.reduceAdd] at p11 p12
        have P1 := Aside0.mk (show w.cell? ⟨ad0.block, ad0.off + 6, none⟩ = some (.string m2.f2) from p12)
        clear zz zz3 zz4 zz5 p11 p12
        subst e0
        go_upto_region 32 with fail
        have p0 := (H2.hb.cell (World.block_lt_of_cell? w _ P0.out)).trans P0.out
        have cc := H2.c 0 rfl
        have qq := H2.q 0 rfl
        go_upto_region 33 with fail
        replace H2 := H2.set 0 8 (.int .i64 m1.f1) rfl (L' := [(g5, #[.int .i64 9, .int .i64 0, .int .i64 0, .int .i64 0, .bool false, .int .i64 0, .int .i64 0, .int .i64 0, .int .i64 m1.f1, .string ⟨#[]⟩, .string ⟨#[]⟩, .slice none 0 0], 109), (g, #[.int .i64 0, .int .i64 0, .int .i64 0, .int .i64 0, .bool false, .int .i64 0, .int .i64 0, .int .i64 0, .int .i64 0, .string ⟨#[]⟩, .string ⟨#[]⟩, .slice none 0 0], 109)]) rfl
        clear p0 cc qq
        generalize w5.setCell ⟨g5, 8, none⟩ (.int .i64 m1.f1) = w5 at H2 ⊢
        have p0 := (H2.hb.cell (World.block_lt_of_cell? w _ P1.out)).trans P1.out
        have cc := H2.c 0 rfl
        have qq := H2.q 0 rfl
        go_upto_region 34 with fail
        replace H2 := H2.set 0 9 (.string m2.f2) rfl (L' := [(g5, #[.int .i64 9, .int .i64 0, .int .i64 0, .int .i64 0, .bool false, .int .i64 0, .int .i64 0, .int .i64 0, .int .i64 m1.f1, .string m2.f2, .string ⟨#[]⟩, .slice none 0 0], 109), (g, #[.int .i64 0, .int .i64 0, .int .i64 0, .int .i64 0, .bool false, .int .i64 0, .int .i64 0, .int .i64 0, .int .i64 0, .string ⟨#[]⟩, .string ⟨#[]⟩, .slice none 0 0], 109)]) rfl
        clear p0 cc qq
        generalize w5.setCell ⟨g5, 9, none⟩ (.string m2.f2) = w5 at H2 ⊢
        have cc := H2.c 0 rfl
        have c2 := H2.c 1 rfl
        have q2 := H2.q 1 rfl
        have ng : g ≠ g5 := Nat.ne_of_lt (H2.gt 0 1 (by decide) rfl rfl)
        have ng' := ng.symm
        go_wp2
        have H3 := H2.sets 1 [.int .i64 9, .int .i64 0, .int .i64 0, .int .i64 0, .bool false, .int .i64 0, .int .i64 0, .int .i64 0, .int .i64 m1.f1, .string m2.f2, .string ⟨#[]⟩, .slice none 0 0] rfl rfl (L' := [(g5, #[.int .i64 9, .int .i64 0, .int .i64 0, .int .i64 0, .bool false, .int .i64 0, .int .i64 0, .int .i64 0, .int .i64 m1.f1, .string m2.f2, .string ⟨#[]⟩, .slice none 0 0], 109), (g, #[.int .i64 9, .int .i64 0, .int .i64 0, .int .i64 0, .bool false, .int .i64 0, .int .i64 0, .int .i64 0, .int .i64 m1.f1, .string m2.f2, .string ⟨#[]⟩, .slice none 0 0], 109)]) rfl
        exact bodyPost_ret (results_ct Try.results45 _ _ g 109 #[.int .i64 9, .int .i64 0, .int .i64 0, .int .i64 0, .bool false, .int .i64 0, .int .i64 0, .int .i64 0, .int .i64 m1.f1, .string m2.f2, .string ⟨#[]⟩, .slice none 0 0] (0, 0) _ rfl (H3.mem 1 rfl) hu rfl (by kernel_rfl)) rfl (post_ok (A := none) (c := 0) ⟨9, 0, 0, 0, false, 0, 0, 0, m1.f1, m2.f2, E0, []⟩ OK.out rfl (Nat.le_refl _) (Kd.F_nil _ _ _) H3.hb)
      by_cases k1 : o = 1
      · subst k1
        obtain rfl : l = [] := List.eq_nil_of_length_eq_zero hlen
        go_upto_region 34 with fail
        have cc := H2.c 0 rfl
        have c2 := H2.c 1 rfl
        have q2 := H2.q 1 rfl
        have ng : g ≠ g5 := Nat.ne_of_lt (H2.gt 0 1 (by decide) rfl rfl)
        have ng' := ng.symm
        go_wp2
        have H3 := H2.sets 1 [.int .i64 1, .int .i64 0, .int .i64 0, .int .i64 0, .bool false, .int .i64 0, .int .i64 0, .int .i64 0, .int .i64 0, .string ⟨#[]⟩, .string ⟨#[]⟩, .slice none 0 0] rfl rfl (L' := [(g5, #[.int .i64 1, .int .i64 0, .int .i64 0, .int .i64 0, .bool false, .int .i64 0, .int .i64 0, .int .i64 0, .int .i64 0, .string ⟨#[]⟩, .string ⟨#[]⟩, .slice none 0 0], 109), (g, #[.int .i64 1, .int .i64 0, .int .i64 0, .int .i64 0, .bool false, .int .i64 0, .int .i64 0, .int .i64 0, .int .i64 0, .string ⟨#[]⟩, .string ⟨#[]⟩, .slice none 0 0], 109)]) rfl
        exact bodyPost_ret (results_ct Try.results45 _ _ g 109 #[.int .i64 1, .int .i64 0, .int .i64 0, .int .i64 0, .bool false, .int .i64 0, .int .i64 0, .int .i64 0, .int .i64 0, .string ⟨#[]⟩, .string ⟨#[]⟩, .slice none 0 0] (0, 0) _ rfl (H3.mem 1 rfl) hu rfl (by kernel_rfl)) rfl (post_ok (A := none) (c := 0) ⟨1, 0, 0, 0, false, 0, 0, 0, 0, E0, E0, []⟩ OK.out rfl (Nat.le_refl _) (Kd.F_nil _ _ _) H3.hb)
      by_cases k7 : o = 7
      · subst k7
        obtain rfl : l = [] := List.eq_nil_of_length_eq_zero hlen
        go_upto_region 34 with fail
        have cc := H2.c 0 rfl
        have c2 := H2.c 1 rfl
        have q2 := H2.q 1 rfl
        have ng : g ≠ g5 := Nat.ne_of_lt (H2.gt 0 1 (by decide) rfl rfl)
        have ng' := ng.symm
        go_wp2
        have H3 := H2.sets 1 [.int .i64 7, .int .i64 0, .int .i64 0, .int .i64 0, .bool false, .int .i64 0, .int .i64 0, .int .i64 0, .int .i64 0, .string ⟨#[]⟩, .string ⟨#[]⟩, .slice none 0 0] rfl rfl (L' := [(g5, #[.int .i64 7, .int .i64 0, .int .i64 0, .int .i64 0, .bool false, .int .i64 0, .int .i64 0, .int .i64 0, .int .i64 0, .string ⟨#[]⟩, .string ⟨#[]⟩, .slice none 0 0], 109), (g, #[.int .i64 7, .int .i64 0, .int .i64 0, .int .i64 0, .bool false, .int .i64 0, .int .i64 0, .int .i64 0, .int .i64 0, .string ⟨#[]⟩, .string ⟨#[]⟩, .slice none 0 0], 109)]) rfl
        exact bodyPost_ret (results_ct Try.results45 _ _ g 109 #[.int .i64 7, .int .i64 0, .int .i64 0, .int .i64 0, .bool false, .int .i64 0, .int .i64 0, .int .i64 0, .int .i64 0, .string ⟨#[]⟩, .string ⟨#[]⟩, .slice none 0 0] (0, 0) _ rfl (H3.mem 1 rfl) hu rfl (by kernel_rfl)) rfl (post_ok (A := none) (c := 0) ⟨7, 0, 0, 0, false, 0, 0, 0, 0, E0, E0, []⟩ OK.out rfl (Nat.le_refl _) (Kd.F_nil _ _ _) H3.hb)
      by_cases k4 : o = 4
      · subst k4
        obtain ⟨m1, rfl⟩ : ∃ m1, l = [m1] := by
          match l, hlen with
          | [m1], _ => exact ⟨m1, rfl⟩
        have hL0 : [m1].length = 1 := rfl
        obtain ⟨ad0, A3, c3, e0, z0, z1, z2, z3, lz, gz⟩ := atW HC.out 0 (by simp)
        subst e0
        simp only [Nat.zero_mul, Addr.add_zero'] at z0 z1 z2 z3
        have hm : at_ [m1] 0 = m1 := rfl
        rw [hm] at z0 z1 z2 z3 lz gz
        go_upto_region 22 with fail
        replace z0 := (H2.hb.cell (World.block_lt_of_cell? w _ z0)).trans z0
        replace z1 := (H2.hb.cell (World.block_lt_of_cell? w _ z1)).trans z1
        replace z2 := (H2.hb.cell (World.block_lt_of_cell? w _ z2)).trans z2
        replace z3 := (H2.hb.cell (World.block_lt_of_cell? w _ z3)).trans z3
        have HW := Aside0.mk (Rw.read_walk m1 A3 c3 w5 (Kd.C_below gz H2.hb) lz (HL.out m1 (by simp)))
        clear lz gz hm
        have HR := Aside0.mk (show mkB 4 [m1] = { zB 4 with fname := (flowRW m1).1, nodes := (flowRW m1).2.1 } from rfl)
        generalize flowRW m1 = r at HW HR
        obtain ⟨r1, r2, r3⟩ := r
        go_upto_region 23 with (go_at_call 23; go_loud ((with_reducible refine HW.out.mono ?_); rintro e wq2 ⟨u, rfl, ⟨A5, c5, rfl, l5, hF5⟩, hq⟩; have HF := Aside0.mk hF5; have HL5 := Aside0.mk l5; clear hF5 l5))
        have hlt := H2.lt 0 rfl
        replace H2 := (H2.go hq).alloc #[.string r1, .slice A5 r2.length c5] 30
        have hF := Kd.F_mono (ok' := fun k => g5 < k) (Kd.F_alloc HF.out (.cells #[.string r1, .slice A5 r2.length c5] 30)) (fun k hk => Nat.lt_of_lt_of_le hlt hk)
        clear hq z0 z1 z2 z3 HF HW hlt
        generalize wq2.alloc (.cells #[.string r1, .slice A5 r2.length c5] 30) = w6 at H2 hF ⊢
        generalize wq2.heap.size = g6 at H2 ⊢
        have HF := Aside0.mk hF
        clear hF
        have cc := H2.c 0 rfl
        have c5_ := H2.c 1 rfl
        have q5_ := H2.q 1 rfl
        have ng : g6 ≠ g5 := Nat.ne_of_gt (H2.gt 0 1 (by decide) rfl rfl)
        have ng' := ng.symm
        go_upto_region 34 with fail
        replace H2 := (H2.set 1 10 (.string r1) rfl (L' := [(g6, #[.string r1, .slice A5 r2.length c5], 30), (g5, #[.int .i64 4, .int .i64 0, .int .i64 0, .int .i64 0, .bool false, .int .i64 0, .int .i64 0, .int .i64 0, .int .i64 0, .string ⟨#[]⟩, .string r1, .slice none 0 0], 109), (g, #[.int .i64 0, .int .i64 0, .int .i64 0, .int .i64 0, .bool false, .int .i64 0, .int .i64 0, .int .i64 0, .int .i64 0, .string ⟨#[]⟩, .string ⟨#[]⟩, .slice none 0 0], 109)]) rfl).set 1 11 (.slice A5 r2.length c5) rfl (L' := [(g6, #[.string r1, .slice A5 r2.length c5], 30), (g5, #[.int .i64 4, .int .i64 0, .int .i64 0, .int .i64 0, .bool false, .int .i64 0, .int .i64 0, .int .i64 0, .int .i64 0, .string ⟨#[]⟩, .string r1, .slice A5 r2.length c5], 109), (g, #[.int .i64 0, .int .i64 0, .int .i64 0, .int .i64 0, .bool false, .int .i64 0, .int .i64 0, .int .i64 0, .int .i64 0, .string ⟨#[]⟩, .string ⟨#[]⟩, .slice none 0 0], 109)]) rfl
        have hF := Kd.F_step (Kd.F_step HF.out (fun k hk _ => Below.heap_setCell w6 ⟨g5, 10, none⟩ (.string r1) k (Nat.ne_of_gt hk))) (fun k hk _ => Below.heap_setCell _ ⟨g5, 11, none⟩ (.slice A5 r2.length c5) k (Nat.ne_of_gt hk))
        clear cc c5_ q5_ HF ng ng'
        generalize (w6.setCell ⟨g5, 10, none⟩ (.string r1)).setCell ⟨g5, 11, none⟩ (.slice A5 r2.length c5) = w7 at H2 hF ⊢
        have HF := Aside0.mk hF
        clear hF
        have cc := H2.c 1 rfl
        have c2 := H2.c 2 rfl
        have q2 := H2.q 2 rfl
        have n0 := H2.gt 1 2 (by decide) rfl rfl
        have ng : g ≠ g5 := Nat.ne_of_lt n0
        have ng' := ng.symm
        have nw := H2.ge 2 rfl
        go_wp2
        have H3 := H2.sets 2 [.int .i64 4, .int .i64 0, .int .i64 0, .int .i64 0, .bool false, .int .i64 0, .int .i64 0, .int .i64 0, .int .i64 0, .string ⟨#[]⟩, .string r1, .slice A5 r2.length c5] rfl rfl rfl
        have hF3 := Kd.F_step HF.out (fun k hk _ => sets_o (g := g) (by omega) [.int .i64 4, .int .i64 0, .int .i64 0, .int .i64 0, .bool false, .int .i64 0, .int .i64 0, .int .i64 0, .int .i64 0, .string ⟨#[]⟩, .string r1, .slice A5 r2.length c5] 0 w7)
        exact bodyPost_ret (results_ct Try.results45 _ _ g 109 #[.int .i64 4, .int .i64 0, .int .i64 0, .int .i64 0, .bool false, .int .i64 0, .int .i64 0, .int .i64 0, .int .i64 0, .string ⟨#[]⟩, .string r1, .slice A5 r2.length c5] (0, 0) _ rfl (H3.mem 2 rfl) hu rfl (by kernel_rfl)) rfl (post_ok (A := A5) (c := c5) ⟨4, 0, 0, 0, false, 0, 0, 0, 0, E0, r1, r2⟩ OK.out HR.out HL5.out (Kd.F_mono hF3 (fun k hk => by omega)) H3.hb)
      exact absurd (show kindsB o = [45] by unfold kindsB; repeat (first | rw [if_neg (by omega)] | rfl)) OK.out.1
end Go.Proofs.Ytjicfkmpgogppaa.Rr
