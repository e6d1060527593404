/-
  sha.Sum.
-/
import Derived.Test.YtelhajoedlaohaaDoorShaP
namespace Go.Proofs.YtelhajoedlaohaaDoor.Sha
set_option linter.unusedVariables false
set_option linter.unusedSimpArgs false
open Go Go.RowKit Go.Proofs.YtelhajoedlaohaaDoor.Plain Go.Proofs.YtelhajoedlaohaaDoor.PD Go.Proofs.YtelhajoedlaohaaDoor.WordsA Go.Proofs.YtelhajoedlaohaaDoor.Bld Go.Proofs.YtelhajoedlaohaaDoorW.PrintWords Go.Proofs.YtelhajoedlaohaaDoorW.PrintLast Go.Proofs.YtelhajoedlaohaaDoorW.PrintMore
/-- the bytes of a text -/
def bl (s : ByteArray) : List Nat := s.data.toList.map (fun c => c.toNat)
theorem bl_length (s : ByteArray) : (bl s).length = s.size := by
  unfold bl
  rw [List.length_map]
  exact Array.length_toList
theorem bl_bnd (s : ByteArray) : bnd (bl s) 256 := fun x hx => by
  simp only [bl, List.mem_map] at hx
  obtain ⟨c, _, rfl⟩ := hx
  exact UInt8.toNat_lt c
/-- the state behind the first blocks of a text -/
def runB (ks : List Nat) (all : ByteArray) : Nat → List Nat
  | 0 => init
  | i + 1 => block ks (runB ks all i) (bl (all.extract (64 * i) (64 * i + 64)))
theorem init_bnd : bnd init 4294967296 := by unfold bnd; decide
abbrev initV : Array Value := #[.int .u32 1779033703, .int .u32 3144134277, .int .u32 1013904242, .int .u32 2773480762, .int .u32 1359893119, .int .u32 2600822924, .int .u32 528734635, .int .u32 1541459225]
theorem begin_lit (w : World) :
    Calls Tryd.prog 10 #[] w fun e w' => e = .returned (.agg initV) ∧ Below w.heap.size w w' := begin_walk w
theorem runB_ok (ks : List Nat) (all : ByteArray) : ∀ i, (runB ks all i).length = 8 ∧ bnd (runB ks all i) 4294967296
  | 0 => ⟨rfl, init_bnd⟩
  | i + 1 => block_ok _ _ _ (runB_ok ks all i).1 (runB_ok ks all i).2
def sumK (ks : List Nat) (s : ByteArray) : ByteArray := txt (runB ks (s ++ pad s.size) ((s.size + (9 + need s.size)) / 64)) 8
theorem sumK_size (ks : List Nat) (s : ByteArray) : (sumK ks s).size = 32 := txt_size _ 8
theorem ext_size (all : ByteArray) (a b : Nat) (h : b ≤ all.size) : (all.extract a b).size = b - a := by rw [ByteArray.size_extract]; omega
theorem ext_ext (all : ByteArray) (a b c d : Nat) (h : a + d ≤ b) (hb : b ≤ all.size) : (all.extract a b).extract c d = all.extract (a + c) (a + d) := by
  apply ByteArray.ext
  rw [ByteArray.data_extract, ByteArray.data_extract, ByteArray.data_extract, Array.extract_extract]
  congr 1
  omega
theorem run_arrayAt {P : Program} (w : World) (T e : TypeId) (n len cap : Nat) (a : Addr) (h : P.underlying T = some (.array n e)) (hl : n ≤ len) : (Instr.arrayAt T (.slice (some a) len cap)).run P w = .ok (.pointer (some a)) w := by
  simp [Instr.arrayAt, Sem.run_bind, run_underlying h, Result.andThen, hl]
  intro h1; omega
theorem exec_load {P : Program} {a : Act} {w : World} {op : Oper} (ty : TypeId) (x : Operand) (ho : op.op = .load ty x) (b o : Nat) (hx : a.eval x = .pointer (some ⟨b, o, none⟩)) (cs : List Value) (d : TypeDesc) (hc : w.rangeAt b o cs)
    (hu : P.underlying ty = some d) (hd : d.isRow = true) (hi : (P.info? ty).map (·.size) = some cs.length) : (execOp a.eval op).run P w = .ok (.value (.agg cs.toArray)) w := by
  unfold execOp
  simp only [ho, hx, Instr.loadAt, Instr.sureAddr, Sem.run_bind, Sem.run_pure, Result.andThen_ok, run_loadVar_mid w b o ty cs d hc hu hd hi]
theorem exec_store {P : Program} {a : Act} {w : World} {op : Oper} (ty : TypeId) (x y : Operand) (ho : op.op = .store ty x y) (b o : Nat) (cells : Array Value) (hx : a.eval x = .pointer (some ⟨b, o, none⟩)) (hy : a.eval y = .agg cells)
    (ht : w.there b o cells.size) (hi : (P.info? ty).map (·.size) = some cells.size) (h1 : cells.all (·.oneCell') = true) : (execOp a.eval op).run P w = .ok .skip (w.setCells b o cells.toList) := by
  unfold execOp
  simp only [ho, hx, hy, Instr.storeAt, Instr.sureAddr, Sem.run_bind, Sem.run_pure, Result.andThen_ok, run_storeVar_mid w b o ty cells ht hi h1]
theorem setCells_row {b : Nat} {t : TypeId} : ∀ (vs : List Value) (o : Nat) (w : World) (cs : List Value), w.heap[b]? = some (.cells cs.toArray t (0, 0)) → o + vs.length = cs.length → (w.setCells b o vs).heap[b]? = some (.cells (cs.take o ++ vs).toArray t (0, 0))
  | [], o, w, cs, h, hl => by rw [World.setCells, List.append_nil, List.take_of_length_le (by simp at hl; omega)]; exact h
  | v :: r, o, w, cs, h, hl => by
    have ho : o < cs.length := by simp at hl; omega
    rw [World.setCells, setCells_row r (o + 1) _ (cs.set o v) (blk_put h o v (by rw [List.setIfInBounds_toArray])) (by simp at hl ⊢; omega)]
    congr 3
    apply List.ext_getElem?
    intro j
    by_cases h1 : j < o
    · rw [List.getElem?_append_left (by simp; omega), List.getElem?_append_left (by simp; omega), List.getElem?_take_of_lt (by omega), List.getElem?_take_of_lt h1, List.getElem?_set_ne (by omega)]
    · by_cases h2 : j = o
      · subst h2
        rw [List.getElem?_append_left (by simp; omega), List.getElem?_take_of_lt (by omega), List.getElem?_set_self ho, List.getElem?_append_right (by simp; omega)]
        simp [Nat.min_eq_left (Nat.le_of_lt ho)]
      · rw [List.getElem?_append_right (by simp; omega), List.getElem?_append_right (by simp; omega)]
        simp only [List.length_take, List.length_set]
        rw [show j - min o cs.length = (j - min (o + 1) cs.length) + 1 by omega, List.getElem?_cons_succ]
theorem arr_row {b : Nat} {t : TypeId} {w : World} (k : IntKind) (l l' : List Nat) (h : w.heap[b]? = some (.cells (arr k l) t (0, 0))) (hl : l.length = l'.length) : (w.setCells b 0 (arr k l').toList).heap[b]? = some (.cells (arr k l') t (0, 0)) := by
  have z := setCells_row (arr k l').toList 0 w (arr k l).toList (by simpa using h) (by simp [arr, hl])
  simpa using z
set_option maxHeartbeats 4000000 in
set_option maxRecDepth 1000000 in
theorem sum_walk (ks : List Nat) (s : ByteArray) (w : World) (hk : ks.length = 64) (hkb : bnd ks 4294967296) (hg : w.rangeAt 0 0 (ks.map fun n : Nat => Value.int .u32 (n : Int))) (hs : s.size ≤ 281474976710656) :
    Calls Tryd.prog 15 #[.string s] w fun e w' => e = .returned (.string (sumK ks s)) ∧ Below w.heap.size w w' := by
  have HKL := Aside0.mk hk
  have HKB := Aside0.mk hkb
  have HG := Aside0.mk hg
  have HSZ := Aside0.mk hs
  clear hk hkb hg
  have hsL := (Tryd.underlying25 : Tryd.prog.underlying 25 = _)
  have h64L := (Tryd.underlying24 : Tryd.prog.underlying 24 = _)
  obtain ⟨n, hn⟩ : ∃ n, (s.size + (9 + need s.size)) / 64 = n := ⟨_, rfl⟩
  obtain ⟨all, hall⟩ : ∃ all, s ++ pad s.size = all := ⟨_, rfl⟩
  have hz : all.size = 64 * n := by rw [← hall, ByteArray.size_append, pad_size, ← hn]; unfold need; omega
  have HN : Aside0 (sumK ks s = txt (runB ks all n) 8) := ⟨by rw [sumK, hall, hn]⟩
  have HZ := Aside0.mk hz
  have HAL := Aside0.mk hall
  have hbig : all.size ≤ 9223372036854775807 := by rw [← hall, ByteArray.size_append, pad_size]; unfold need; omega
  have h63 : s.size + (pad s.size).size ≤ 9223372036854775807 := by rw [← ByteArray.size_append, hall]; exact hbig
  have HBG := Aside0.mk hbig
  clear hn hz hall hbig
  generalize hp : pad s.size = p at h63 HAL
  have HP := Aside0.mk hp
  clear hp
  have hw1 : IntKind.u64.wrap (s.size : Int) = (s.size : Int) := IntWalk.u64_in _ (by omega)
  go_enter Tryd.func15, Tryd.ntmps15
  go_upto_region 2 with (go_at_call 10; (with_reducible refine (begin_lit _).mono ?_); rintro e w1 ⟨rfl, hb⟩; have HB1 := Aside0.mk hb; clear hb)
  have HS : Aside0 ((w1.alloc (.cells initV 25)).heap[w1.heap.size]? = some (.cells (arr .u32 (runB ks all 0)) 25 (0, 0))) := ⟨blk_new _ _⟩
  have HB := Aside0.mk (below_alloc HB1.out (.cells initV 25))
  have HGT : Aside0 (w.heap.size ≤ w1.heap.size) := ⟨below_size HB1.out⟩
  clear HB1
  generalize w1.heap.size = g at HS HGT ⊢
  generalize w1.alloc (.cells initV 25) = w2 at HS HB ⊢
  go_wp2_with (go_at_call 17; (with_reducible refine (pad_walk 10 (by decide) s.size (by have := HSZ.out; omega) _).mono ?_); rintro e w3 ⟨rfl, hb⟩; rw [HP.out]; have HS3 := Aside0.mk (blk_below HS.out hb); have HB3 := Aside0.mk (below_step HB.out hb); clear hb HS HB)
  rw [HAL.out]
  go_loopw [4] (fun v4 wr => ∃ i : Nat, i ≤ n ∧ v4 = .string (all.extract (64 * i) all.size) ∧ Aside0 (wr.heap[g]? = some (.cells (arr .u32 (runB ks all i)) 25 (0, 0))) ∧ Aside0 (Below w.heap.size w wr)) (fun v4 _ => match v4 with | .string x => x.size | _ => 0)
  case atStart => exact ⟨0, by omega, by rw [Nat.mul_zero, ByteArray.extract_zero_size], HS3, HB3⟩
  case round =>
    clear HS3 HB3
    obtain ⟨i, hi, rfl, HS, HB⟩ := hrel
    have hrz : (all.extract (64 * i) all.size).size = 64 * (n - i) := by rw [ext_size _ _ _ (Nat.le_refl _), HZ.out]; omega
    have hRI := Aside0.mk (show (Tryd.prog.info? 25).map (·.size) = some ((runB ks all i).map fun n : Nat => Value.int .u32 (n : Int)).length by rw [List.length_map, (runB_ok ks all i).1]; kernel_rfl)
    by_cases hlt : i < n
    · have hc : (all.extract (64 * i) all.size).extract 0 64 = all.extract (64 * i) (64 * i + 64) := by rw [ext_ext _ _ _ _ _ (by rw [HZ.out]; omega) (Nat.le_refl _)]; rfl
      have hd : (all.extract (64 * i) all.size).extract 64 (all.extract (64 * i) all.size).size = all.extract (64 * (i + 1)) all.size := by
        rw [hrz, ext_ext _ _ _ _ _ (by rw [HZ.out]; omega) (Nat.le_refl _), HZ.out]
        congr 1; omega
      have hCs : Aside0 ((all.extract (64 * i) (64 * i + 64)).size = 64) := ⟨by rw [ext_size _ _ _ (by rw [HZ.out]; omega)]; omega⟩
      have hne : (all.extract (64 * i) all.size).toList.isEmpty = false := by
        rw [toList_data, Bool.eq_false_iff]
        intro h
        have h2 := List.isEmpty_iff.mp h
        have h3 : (all.extract (64 * i) all.size).data.toList.length = 0 := by rw [h2]; rfl
        rw [Array.length_toList] at h3
        have h4 : (all.extract (64 * i) all.size).size = 0 := h3
        omega
      have hR1 : Aside0 (runB ks all (i + 1) = block ks (runB ks all i) (bl (all.extract (64 * i) (64 * i + 64)))) := ⟨rfl⟩
      have hRI1 := Aside0.mk (show (Tryd.prog.info? 25).map (·.size) = some (arr .u32 (runB ks all (i + 1))).size by rw [arr_size, (runB_ok ks all (i + 1)).1]; kernel_rfl)
      have hgt : 64 ≤ (all.extract (64 * i) all.size).size := by omega
      have hsz1 : Aside0 ((all.extract (64 * (i + 1)) all.size).size < (all.extract (64 * i) all.size).size) := ⟨by rw [ext_size _ _ _ (Nat.le_refl _), ext_size _ _ _ (Nat.le_refl _), HZ.out]; omega⟩
      clear hrz
      generalize all.extract (64 * i) (64 * i + 64) = C at hc hCs hR1
      obtain ⟨R, hR⟩ : ∃ R, all.extract (64 * i) all.size = R := ⟨_, rfl⟩
      rw [hR] at hc hd hne hgt hsz1 ⊢
      clear hR
      have hgt64 : (64 : Int) ≤ (R.size : Int) := by omega
      have hCI := Aside0.mk (show (Tryd.prog.info? 24).map (·.size) = some ((bl C).map fun n : Nat => Value.int .u8 (n : Int)).length by rw [List.length_map, bl_length, hCs.out]; kernel_rfl)
      have kb := fun W => print_bytes (P := Tryd.prog) 9 37 5 Tryd.underlying9 Tryd.underlying37 Tryd.underlying5 C W
      have kp := fun (W : World) (q cq : Nat) => run_arrayAt (P := Tryd.prog) W 24 5 64 C.size cq ⟨q, 0, none⟩ h64L (by rw [hCs.out]; decide)
      have he : (R.toList == ([] : List UInt8)) = false := by
        rw [← Bool.not_eq_true, beq_iff_eq]; intro h; rw [h] at hne; exact absurd hne (by decide)
      go_upto_region 5 with fail
      refine start_ (n := 8) (ds := [7]) (S := fun w' => w'.heap[g]? = some (.cells (arr .u32 (runB ks all i)) 25 (0, 0))) #[false, false, false, false, false, false, false, false] (by kernel_rfl) rfl rfl (blk_drew HS.out) (fun hHeld => ?_)
      refine take_ (i := 0) (N := some 16) (v := .agg (arr .u32 (runB ks all i))) (a' := ?_) #[true, false, false, false, false, false, false, false] rfl rfl (by kernel_rfl) (fun _ _ _ h => h) (yieldsIf_load_mid (by rfl) 25 (.tmp 3) rfl g 0 (by rfl) ((runB ks all i).map fun n : Nat => Value.int .u32 (n : Int)) _ (fun w' hw' => fun j v hj => by rw [Nat.zero_add, blk_cell hw' j]; unfold arr; rw [List.getElem?_toArray]; exact hj) hsL rfl hRI.out) hHeld ?_ ?_
      rotate_left
      · simp only [Act.put, List.setIfInBounds_toArray, List.set_cons_zero, List.set_cons_succ, i64_w, i32_w]
        rfl
      refine pure_ (i := 1) (N := some 17) (v := ?_) (a' := ?_) #[true, true, false, false, false, false, false, false] rfl rfl (by kernel_rfl) (fun _ _ _ h => h) (Or.inl ⟨by rfl, ?_⟩) ?_ ?_
      rotate_left
      · intro w'
        go_simp
        with_reducible rfl
      rotate_left
      · simp only [Act.put, List.setIfInBounds_toArray, List.set_cons_zero, List.set_cons_succ, i64_w, i32_w]
        rfl
      refine pure_ (i := 2) (N := some 18) (v := ?_) (a' := ?_) #[true, true, true, false, false, false, false, false] rfl rfl (by kernel_rfl) (fun _ _ _ h => h) (Or.inl ⟨by rfl, ?_⟩) ?_ ?_
      rotate_left
      · intro w'
        go_simp
        with_reducible rfl
      rotate_left
      · simp only [Act.put, List.setIfInBounds_toArray, List.set_cons_zero, List.set_cons_succ, i64_w, i32_w]
        rfl
      have HS2 := blk_drew HS.out
      have HB2 := Aside0.mk (below_drew HB.out)
      generalize wr.drew = w2 at HS2 HB2 ⊢
      have hbn := blk_lt HS2
      refine one_ (i := 3) (N := some 19) #[true, true, true, true, false, false, false, false] rfl rfl (by kernel_rfl) (by simp) (fun K hK => ?_)
      refine value_ (w1 := Lib.bytesWorld w2 5 C) (v := .slice (some ⟨w2.heap.size, 0, none⟩) C.size (grownCap w2 C.size 0 5)) (by rfl) rfl ?_ ?_
      · first | (go_simp; done) | (go_simp; with_reducible rfl)
      have HS3 : (Lib.bytesWorld w2 5 C).heap[g]? = _ := (Lib.bytesWorld_at_old w2 5 C g hbn).trans HS2
      refine hK.out _ _ HS3 (fun hHeld => ?_)
      clear hK K
      refine norm_ (a' := ?_) ?_ ?_
      rotate_left
      · show Act.put _ (some 19) _ = _
        simp only [Act.put, List.setIfInBounds_toArray, List.set_cons_zero, List.set_cons_succ, i64_w, i32_w]
        rfl
      have HB3 := Aside0.mk (bytes_below HB2.out (below_size HB2.out) 5 C)
      have hcl : (Lib.bytesWorld w2 5 C).rangeAt w2.heap.size 0 ((bl C).map fun n : Nat => Value.int .u8 (n : Int)) := fun j v hj => by
        have hj' : j < C.size := by have := (List.getElem?_eq_some_iff.1 hj).1; simpa [bl_length] using this
        rw [Nat.zero_add, Lib.bytesWorld_cell w2 _ C j hj', ← hj, List.getElem?_map]
        unfold bl
        have hj2 : j < C.data.toList.length := by rw [Array.length_toList]; exact hj'
        rw [List.getElem?_map, List.getElem?_eq_getElem hj2, List.getD_eq_getElem?_getD, List.getElem?_eq_getElem hj2]
        rfl
      generalize hq : w2.heap.size = q at hcl ⊢
      clear hq
      generalize Lib.bytesWorld w2 5 C = w3 at HS3 HB3 hcl ⊢
      generalize grownCap w2 C.size 0 5 = cq
      refine pure_ (i := 4) (N := some 20) (v := ?_) (a' := ?_) #[true, true, true, true, true, false, false, false] rfl rfl (by kernel_rfl) (fun _ _ _ h => h) (Or.inl ⟨by rfl, ?_⟩) ?_ ?_
      rotate_left
      · intro w'
        go_simp
        with_reducible rfl
      rotate_left
      · simp only [Act.put, List.setIfInBounds_toArray, List.set_cons_zero, List.set_cons_succ, i64_w, i32_w]
        rfl
      refine one_ (i := 5) (N := some 21) #[true, true, true, true, true, true, false, false] rfl rfl (by kernel_rfl) (by simp) (fun K hK => ?_)
      refine value_ (w1 := w3) (v := .agg (arr .u8 (bl C))) (by rfl) rfl ?_ ?_
      · exact exec_load 24 (.tmp 20) rfl q 0 (by rfl) ((bl C).map fun n : Nat => Value.int .u8 (n : Int)) _ hcl h64L rfl hCI.out
      refine hK.out _ _ HS3 (fun hHeld => ?_)
      clear hK K
      refine norm_ (a' := ?_) ?_ ?_
      rotate_left
      · show Act.put _ (some 21) _ = _
        simp only [Act.put, List.setIfInBounds_toArray, List.set_cons_zero, List.set_cons_succ, i64_w, i32_w]
        rfl
      refine one_ (i := 6) (N := some 22) #[true, true, true, true, true, true, true, false] rfl rfl (by kernel_rfl) (by simp) (fun K hK => ?_)
      refine goes_ Tryd.func11 (by kernel_rfl) rfl #[.agg (arr .u32 (runB ks all i)), .agg (arr .u8 (bl C))] (by rfl) rfl rfl (by simp only [List.map_toArray, List.map_cons, List.map_nil]; rfl) ?_
      refine (block_walk ks (runB ks all i) (bl C) w3 HKL.out HKB.out (fun j v hj => (HB3.out.cell (World.block_lt_of_cell? w _ (HG.out j v hj))).trans (HG.out j v hj)) (runB_ok ks all i).1 (by rw [bl_length]; exact hCs.out) (runB_ok ks all i).2 (bl_bnd C)).mono ?_
      rintro e w4 ⟨rfl, hb4⟩
      refine ⟨_, rfl, ?_⟩
      have HS4 := blk_below HS3 hb4
      have HB4 := Aside0.mk (below_step HB3.out hb4)
      refine hK.out _ _ HS4 (fun hHeld => ?_)
      clear hK K hb4
      refine norm_ (a' := ?_) ?_ ?_
      rotate_left
      · show Act.put _ (some 22) _ = _
        simp only [Act.put, List.setIfInBounds_toArray, List.set_cons_zero, List.set_cons_succ, i64_w, i32_w]
        rfl
      refine last_ (i := 7) (N := none) #[true, true, true, true, true, true, true, true] rfl rfl (by kernel_rfl) (by simp) (fun K hK => ?_)
      refine skip_ (w1 := w4.setCells g 0 (arr .u32 (runB ks all (i + 1))).toList) (by rfl) rfl ?_ ?_
      · exact exec_store 25 (.tmp 3) (.tmp 22) rfl g 0 (arr .u32 (runB ks all (i + 1))) (by rfl) (by rw [hR1.out]; rfl) (fun j hj => ⟨by rw [Nat.zero_add, blk_cell HS4 j, arr_at .u32 _ j (by rw [(runB_ok ks all i).1]; rw [arr_size, (runB_ok ks all (i + 1)).1] at hj; exact hj)]; rfl, blk_frozen HS4 _⟩) hRI1.out (arr_one _ _)
      have HS5 := Aside0.mk (arr_row .u32 (runB ks all i) (runB ks all (i + 1)) HS4 (by rw [(runB_ok ks all i).1, (runB_ok ks all (i + 1)).1]))
      have HB5 := Aside0.mk (below_setCells HGT.out (arr .u32 (runB ks all (i + 1))).toList 0 _ HB4.out)
      refine hK.out _ _ ?_
      clear hK K HS4 HS3 HS2 hcl hHeld
      refine done_ (by kernel_rfl) ?_
      generalize w4.setCells g 0 (arr .u32 (runB ks all (i + 1))).toList = w5 at HS5 HB5 ⊢
      go_wp2
      go_roundw
      case rel => exact ⟨i + 1, by omega, rfl, HS5, HB5⟩
      case measure => exact hsz1.out
    · obtain rfl : i = n := by omega
      have he : (all.extract (64 * i) all.size) = ByteArray.empty := by
        have h0 : (all.extract (64 * i) all.size).size = 0 := by omega
        exact ByteArray.size_eq_zero_iff.mp h0
      rw [he]
      clear he hrz
      have he1 : (ByteArray.empty.toList == ([] : List UInt8)) = true := by rw [toList_data]; rfl
      have he2 : ByteArray.empty.toList.isEmpty = true := by rw [toList_data]; rfl
      have hRI2 := Aside0.mk (show (Tryd.prog.info? 25).map (·.size) = some (arr .u32 (runB ks all i)).size by rw [arr_size, (runB_ok ks all i).1]; kernel_rfl)
      go_wp2_with (first
        | (refine wpList_load_row rfl 25 (.tmp 3) rfl g (by rfl) 25 _ (0, 0) _ HS.out hsL rfl hRI2.out ?_)
        | (go_at_call 18; (with_reducible refine (text_walk 10 (by decide) (runB ks all i) _ (runB_ok ks all i).1 (runB_ok ks all i).2).mono ?_); rintro e w4 ⟨rfl, hb⟩; have HB4 := Aside0.mk (below_step HB.out hb); clear hb))
      go_ret
      exact ⟨by rw [HN.out]; rfl, HB4.out⟩
end Go.Proofs.YtelhajoedlaohaaDoor.Sha
