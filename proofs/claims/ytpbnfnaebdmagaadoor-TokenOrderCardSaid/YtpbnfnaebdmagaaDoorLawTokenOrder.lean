/-
  The row and the card of TokenOrder: a token with a wrong tag is told as that, however late it is; a late one as late, of whatever epoch.
-/
import Derived.Test.YtpbnfnaebdmagaaDoorCards
import Derived.Test.YtpbnfnaebdmagaaDoorTie
import Derived.Test.YtpbnfnaebdmagaaDoorTokOl
import Derived.Test.YtpbnfnaebdmagaaDoorH5
import Derived.WalkKit
import Derived.ProofKit
import Derived.OpenShut
import Derived.ShutString
import Derived.ChangeOld
import Derived.Below
import Derived.Carry
import Derived.SizedLaws
import Derived.Deep.DeepHandedRow
import Derived.Lib.LaidTab
namespace Go.Proofs.YtpbnfnaebdmagaaDoor.tokenOrder
set_option linter.unusedVariables false
set_option linter.unusedSimpArgs false
open Go.ChangeShapes Go.WideShapes Go.ChangeAt Go.RowKit Go.Proofs.YtpbnfnaebdmagaaDoorW.PrintWords
open Go.ChangeMaps (open_string shut_string)
theorem own : ownKnob Tryd.prog.godebug = none := by kernel_rfl
theorem laidOut : laidOutB Tryd.prog = true := by kernel_rfl
theorem gTab : Tryd.prog.globalNamed "precinct/sha.round" = some 0 := by kernel_rfl
theorem gTabType : (Tryd.prog.globals[0]?).map (·.type) = some 90 := by kernel_rfl
theorem cellsA : Tryd.prog.cellsOf 90 = 64 := by kernel_rfl
theorem cellsE : Tryd.prog.cellsOf 89 = 1 := by kernel_rfl
def nums : List Int := Sha.roots.map fun n : Nat => (n : Int)
theorem nums_length : nums.length = 64 := by decide
/-- what the row's list gives: the table's cells hold its numbers -/
theorem table {W : World} (h : laidMetH Tryd.prog Rows.tokenOrderRow.laid W) : Sha.Tab W := by
  have hT : Lib.TabIs Tryd.prog W "precinct/sha.round" .u32 nums := Lib.tabIs_of_head (rest := []) gTab gTabType Tryd.underlying90 Tryd.underlying89 cellsE cellsA h
  refine ⟨fun j v hj => ?_⟩
  have hlt : j < Sha.roots.length := by have := (List.getElem?_eq_some_iff.1 hj).1; simpa using this
  rw [Nat.zero_add, hT.cell gTab j (by rw [nums_length]; rw [Sha.roots_length] at hlt; exact hlt), ← hj]
  unfold nums
  rw [List.getElem?_map, List.getD_eq_getElem?_getD, List.getElem?_map, List.getElem?_eq_getElem hlt]
  rfl
set_option maxRecDepth 100000 in
theorem contract (H : Type) (enc : TypeId × Value → H) (W : World) (base : Nat) (args : Array Value) (ds gs : List (DataW H)) (before : List MemPlace)
    (hval : ∀ (j : Nat) t v, Tryd.f8.params[j]? = some t → args[j]? = some v → Value.okWide Tryd.prog W .any base t v)
    (hW : DataW.Whole enc Tryd.prog Tryd.f8.params.toList Rows.tokenOrderSpec.vars false W args.toList ds gs before)
    (hsz0 : (DataW.weightsEach Tryd.prog (Tryd.f8.params.toList ++ Rows.tokenOrderSpec.plain.varTypes Tryd.prog) (ds ++ gs)).all (· ≤ reachBytes) = true) (hL : laidMetH Tryd.prog Rows.tokenOrderRow.laid W) :
    Calls Tryd.prog 8 args W fun e W' => ∃ v, e = .returned v ∧ Rows.tokenOrderSpec.post enc Tryd.prog Tryd.f8 false true false false W args v W' := by
  have hsz : (DataW.weightsEach Tryd.prog (Tryd.f8.params.toList ++ Rows.tokenOrderSpec.plain.varTypes Tryd.prog) (ds ++ gs)).all (· ≤ reachBytes) = true := hsz0
  have hW' := hW
  obtain ⟨p, q, hA0, hV, rfl, hfz, hnd⟩ := hW
  have hA : DataW.TrodAll enc Tryd.prog W 0 (fun _ => true) true Tryd.f8.params.toList args.toList ds p := hA0
  rw [Tryd.params8] at hA hval hsz
  obtain ⟨v0, vs0, d0, ds0, p0, q0, hargs, rfl, rfl, h0, r0⟩ := trodAll_cons hA
  obtain ⟨v1, vs1, d1, ds1, p1, q1, rfl, rfl, rfl, h1, r1⟩ := trodAll_cons r0
  obtain ⟨v2, vs2, d2, ds2, p2, q2, rfl, rfl, rfl, h2, r2⟩ := trodAll_cons r1
  obtain ⟨rfl, rfl, rfl⟩ := trodAll_nil r2
  obtain rfl : args = #[v0, v1, v2] := by cases args; simp_all
  obtain ⟨rfl, rfl⟩ := trodVars_none hV
  have k0 := h0
  obtain ⟨cs0, n0, xs0, rfl, rfl, hl0, hf0⟩ := Open.open_aggw Tryd.underlying32 (by kernel_rfl) (by kernel_rfl) (hval 0 32 v0 rfl rfl) h0
  obtain ⟨c0_0, r0_0, rfl, hl0_0⟩ := Open.list_cons hl0
  obtain ⟨c0_1, r0_1, rfl, hl0_1⟩ := Open.list_cons hl0_0
  obtain ⟨c0_2, r0_2, rfl, hl0_2⟩ := Open.list_cons hl0_1
  obtain ⟨c0_3, r0_3, rfl, hl0_3⟩ := Open.list_cons hl0_2
  obtain rfl := List.eq_nil_of_length_eq_zero hl0_3
  obtain ⟨u0_0, y0_0, hu0_0, ht0_0, hx0_0⟩ := hf0 0 _ rfl
  obtain rfl : c0_0 = u0_0 := by simpa using hu0_0
  obtain ⟨a0_0, e0_0, rfl, w0_0⟩ := DataW.trod_int Tryd.underlying3 ht0_0
  obtain rfl : c0_0 = _ := by simpa using e0_0
  obtain ⟨u0_1, y0_1, hu0_1, ht0_1, hx0_1⟩ := hf0 1 _ rfl
  obtain rfl : c0_1 = u0_1 := by simpa using hu0_1
  obtain ⟨a0_1, e0_1, rfl, w0_1⟩ := DataW.trod_int Tryd.underlying3 ht0_1
  obtain rfl : c0_1 = _ := by simpa using e0_1
  obtain ⟨u0_2, y0_2, hu0_2, ht0_2, hx0_2⟩ := hf0 2 _ rfl
  obtain rfl : c0_2 = u0_2 := by simpa using hu0_2
  obtain ⟨a0_2, e0_2, rfl, w0_2⟩ := DataW.trod_int Tryd.underlying2 ht0_2
  obtain rfl : c0_2 = _ := by simpa using e0_2
  obtain ⟨u0_3, y0_3, hu0_3, ht0_3, hx0_3⟩ := hf0 3 _ rfl
  obtain rfl : c0_3 = u0_3 := by simpa using hu0_3
  obtain ⟨a0_3, e0_3, rfl, w0_3⟩ := DataW.trod_int Tryd.underlying2 ht0_3
  obtain rfl : c0_3 = _ := by simpa using e0_3
  clear hf0
  have k1 := h1
  obtain ⟨cs1, n1, xs1, rfl, rfl, hl1, hf1⟩ := Open.open_aggw Tryd.underlying38 (by kernel_rfl) (by kernel_rfl) (hval 1 38 v1 rfl rfl) h1
  obtain ⟨c1_0, r1_0, rfl, hl1_0⟩ := Open.list_cons hl1
  obtain ⟨c1_1, r1_1, rfl, hl1_1⟩ := Open.list_cons hl1_0
  obtain ⟨c1_2, r1_2, rfl, hl1_2⟩ := Open.list_cons hl1_1
  obtain rfl := List.eq_nil_of_length_eq_zero hl1_2
  obtain ⟨u1_0, y1_0, hu1_0, ht1_0, hx1_0⟩ := hf1 0 _ rfl
  obtain rfl : c1_0 = u1_0 := by simpa using hu1_0
  obtain ⟨a1_0, e1_0, rfl, y1_0m⟩ := DataW.trod_string Tryd.underlying9 ht1_0
  have w1_0 : a1_0.size ≤ 140737488351232 := Open.sized_field hsz (j := 1) (t := 38) (i := 0) rfl rfl Tryd.underlying38 rfl hx1_0
  obtain rfl : c1_0 = _ := by simpa using e1_0
  obtain ⟨u1_1, y1_1, hu1_1, ht1_1, hx1_1⟩ := hf1 1 _ rfl
  obtain rfl : c1_1 = u1_1 := by simpa using hu1_1
  obtain ⟨a1_1, e1_1, rfl, w1_1⟩ := DataW.trod_int Tryd.underlying2 ht1_1
  obtain rfl : c1_1 = _ := by simpa using e1_1
  obtain ⟨u1_2, y1_2, hu1_2, ht1_2, hx1_2⟩ := hf1 2 _ rfl
  obtain rfl : c1_2 = u1_2 := by simpa using hu1_2
  obtain ⟨a1_2, e1_2, rfl, w1_2⟩ := DataW.trod_int Tryd.underlying2 ht1_2
  obtain rfl : c1_2 = _ := by simpa using e1_2
  clear hf1
  obtain ⟨a2, rfl, rfl, rfl, y2⟩ := open_string Tryd.underlying9 (hval 2 9 v2 rfl rfl) h2
  have w2 : a2.size ≤ 140737488351232 := by
    have z := sized_string hsz (j := 2) (t := 9) rfl rfl
    rw [Array.length_toList] at z
    exact z
  clear hA0 hsz0 hsz
  have HT := table hL
  refine (Tk.order_walk a0_0 a0_1 a0_2 a0_3 a1_0 a1_1 a1_2 a2 W HT w1_0 w0_0 w0_1 w0_2 w0_3).mono fun e W' ⟨he, bel⟩ => ?_
  subst he
  exact ⟨_, rfl, _, _, _, [], _, [], hW', trodAll_mk1 (shut_bool Tryd.underlying4 _), (trodAll_cons_mk (Below.trod laidOut (by kernel_rfl) (of_decide_eq_true (by kernel_rfl)) k0 bel (Open.trod_lt' k0)) (trodAll_cons_mk (Below.trod laidOut (by kernel_rfl) (of_decide_eq_true (by kernel_rfl)) k1 bel (Open.trod_lt' k1)) (trodAll_cons_mk (shut_string Tryd.underlying9 y2) trodAll_mk0))), rfl, bel.frame _, fun h => by cases h⟩
/-- a world for the witness: the settled one, the table (block 0) holding what its initialiser lays -/
noncomputable def laidWorld (os : Os) : World :=
  { World.holding Tryd.prog os ⟨#[], #[], []⟩ with heap := (World.holding Tryd.prog os ⟨#[], #[], []⟩).heap.modify 0 fun
      | .cells _ t frozen => .cells (nums.map fun z => Value.int .u32 z).toArray t frozen
      | o => o }
theorem laid_met (os : Os) : laidMet Tryd.prog Rows.tokenOrderRow.laid ((laidWorld os).forCall (fun _ _ => 0) ⟨#[], #[.agg #[.int .i64 0, .int .i64 0, .int .i64 0, .int .i64 0], .agg #[.string ByteArray.empty, .int .i64 0, .int .i64 0], .string ByteArray.empty], []⟩).memory :=
  laidMet_of_run' 8 (by kernel_rfl) (by kernel_rfl)
theorem reads (os : Os) {H : Type} (enc : TypeId × Value → H) : ∃ places, DataW.whole enc Tryd.prog ((laidWorld os).forCall (fun _ _ => 0) ⟨#[], #[.agg #[.int .i64 0, .int .i64 0, .int .i64 0, .int .i64 0], .agg #[.string ByteArray.empty, .int .i64 0, .int .i64 0], .string ByteArray.empty], []⟩).memory Tryd.f8.params.toList Rows.tokenOrderSpec.vars false (#[.agg #[.int .i64 0, .int .i64 0, .int .i64 0, .int .i64 0], .agg #[.string ByteArray.empty, .int .i64 0, .int .i64 0], .string ByteArray.empty] : Array Value).toList 8 = some ([.agg [.lit (.int .i64 0), .lit (.int .i64 0), .lit (.int .i64 0), .lit (.int .i64 0)], .agg [.lit (.string []), .lit (.int .i64 0), .lit (.int .i64 0)], .lit (.string [])], [], places) :=
  ⟨[], by kernel_rfl⟩
set_option maxRecDepth 100000 in
theorem lifted (os : Os) (started : os.Started) (H : Type) (enc : TypeId × Value → H) (F : Stop.Interp) :
    ReturnsInHanded {} Tryd.checked os 8 .any ((OpenSpec.ofChange Rows.tokenOrderSpec).preRow enc Tryd.prog Tryd.f8 Rows.tokenOrderRow.domain false Rows.tokenOrderRow.laid) (((OpenSpec.ofChange Rows.tokenOrderSpec).at F).post enc Tryd.prog Tryd.f8 false true false false) := by
  obtain ⟨places, hx⟩ := reads os enc
  refine returnsInHanded_of_row (C := Tryd.checked) (s := OpenSpec.ofChange Rows.tokenOrderSpec) own started (by kernel_rfl) Tryd.func8
    (witness_row_at (enc := enc) (C := Tryd.checked) false (laidWorld os) #[.agg #[.int .i64 0, .int .i64 0, .int .i64 0, .int .i64 0], .agg #[.string ByteArray.empty, .int .i64 0, .int .i64 0], .string ByteArray.empty] rfl (by kernel_rfl) (by kernel_rfl) (by kernel_rfl)
      (OpenSpec.preRow_of_cond 8 hx (by kernel_rfl) (fun k hk => by cases hk) (by kernel_rfl) (laid_met os))) ?_
  intro W base args ds gs before hval hW _ _ hsz hL _ _
  exact contract H enc W base args ds gs before hval hW hsz hL
theorem said : Rows.TokenOrderSaid :=
  OpenClaim.holds_of_cond 8 Tryd.f8 rfl rfl rfl rfl rfl rfl rfl ⟨rfl, rfl, rfl, rfl, rfl⟩ rfl rfl rfl rfl rfl (by kernel_rfl) Tryd.func8 (by kernel_rfl)
    (of_decide_eq_true (by kernel_rfl)) (by unfold Func.isWrapper; first | (rw [if_pos (by decide +kernel)]; kernel_rfl) | (rw [if_neg (by decide +kernel)]; exact ⟨rfl, rfl⟩))
    (fun os started H enc _ F => by rw [OpenClaim.pre_eq_preRow]; exact lifted os started H enc F)
theorem plain (f : FuncId) (fn : Func) (hf : Tryd.pinned.checked.prog.funcNamed "precinct/precinctlaw09.TokenOrder" = some f) (hfn : Tryd.pinned.checked.prog.funcs[f]? = some fn) :
    true = Tryd.pinned.checked.prog.looks [] ∧ ∀ (j : Nat) t, fn.params[j]? = some t → Tryd.pinned.checked.prog.wantsStandIn t = false := by
  obtain rfl : f = 8 := Option.some.inj ((show Tryd.prog.funcNamed "precinct/precinctlaw09.TokenOrder" = some 8 by kernel_rfl).symm.trans hf) |>.symm
  obtain rfl : fn = Tryd.f8 := (Option.some.inj (Tryd.func8.symm.trans hfn)).symm
  refine ⟨by kernel_rfl, fun j t ht => ?_⟩
  rw [Tryd.params8] at ht
  have hm := Array.mem_of_getElem? ht
  have ht' : t = 32 ∨ t = 38 ∨ t = 9 := by simpa using hm
  rcases ht' with rfl | rfl | rfl
  · exact (show Tryd.prog.wantsStandIn 32 = false by kernel_rfl)
  · exact (show Tryd.prog.wantsStandIn 38 = false by kernel_rfl)
  · exact (show Tryd.prog.wantsStandIn 9 = false by kernel_rfl)
theorem card : Rows.TokenOrderCardSaid :=
  Claim7.holds_tied_plain_at .later [] _ _ _ _ said (fun _ h => by cases h) (by kernel_rfl) (fun _ h => by cases h) tokenOrder_row_tie rfl ⟨rfl, rfl⟩ (by kernel_rfl) rfl plain (by kernel_rfl)
#print axioms card
end Go.Proofs.YtpbnfnaebdmagaaDoor.tokenOrder
namespace Go.Proofs.YtpbnfnaebdmagaaDoor
/-- The card, under a short name, for the claim. -/
theorem tokenOrder_holds : Rows.TokenOrderCardSaid := tokenOrder.card
end Go.Proofs.YtpbnfnaebdmagaaDoor
