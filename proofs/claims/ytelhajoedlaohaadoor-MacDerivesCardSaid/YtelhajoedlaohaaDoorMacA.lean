/-
  mac: a key laid, the program's way.
-/
import Derived.Test.YtelhajoedlaohaaDoorShaLaw
namespace Go.Proofs.YtelhajoedlaohaaDoor.Sha
set_option linter.unusedVariables false
set_option linter.unusedSimpArgs false
open Go Go.RowKit Go.Proofs.YtelhajoedlaohaaDoor.Plain Go.Proofs.YtelhajoedlaohaaDoor.PD Go.Proofs.YtelhajoedlaohaaDoorW.PrintWords Go.Proofs.YtelhajoedlaohaaDoorW.PrintLast Go.Proofs.YtelhajoedlaohaaDoorW.PrintMore
/-- the key that is laid -/
def keyB (key : ByteArray) : ByteArray := if 64 < key.size then sumK roots key else key
theorem keyB_size (key : ByteArray) : (keyB key).size ≤ 64 := by
  unfold keyB
  split
  · rw [sumK_size]; omega
  · omega
def keyAt (key : ByteArray) (j : Nat) : Int := if j < key.size then bt key j else 0
def laidL (key : ByteArray) (x : Int) (i : Nat) : List Int := (List.range i).map fun j => bits .xor .u8 (keyAt key j) x
theorem laidL_length (key : ByteArray) (x : Int) (i : Nat) : (laidL key x i).length = i := by simp [laidL]
theorem laidL_succ (key : ByteArray) (x : Int) (i : Nat) : laidL key x (i + 1) = laidL key x i ++ [bits .xor .u8 (keyAt key i) x] := by
  unfold laidL
  rw [List.range_succ, List.map_append]; rfl
/-- a key laid: what stands ahead of the text -/
def laidK (key : ByteArray) (x : Int) : ByteArray := strOfNums (laidL (keyB key) x 64)
theorem size_nums (l : List Int) : (strOfNums l).size = l.length := size_strOfNums l
theorem laidK_size (key : ByteArray) (x : Int) : (laidK key x).size = 64 := by unfold laidK; rw [size_strOfNums, laidL_length]
def padded (key : ByteArray) : ByteArray := key ++ zeros (64 - key.size)
theorem padded_size (key : ByteArray) (h : key.size ≤ 64) : (padded key).size = 64 := by
  unfold padded
  rw [ByteArray.size_append, zeros_size]; omega
theorem padded_at (key : ByteArray) (h : key.size ≤ 64) (j : Nat) (hj : j < 64) : (bytesOf (padded key)).getD j 0 = keyAt key j := by
  have hl : key.data.toList.length = key.size := Array.length_toList
  have hp : (bytesOf (padded key)).length = 64 := by rw [bytesOf_length, padded_size key h]
  unfold keyAt bytesOf padded
  rw [ByteArray.data_append, Array.toList_append, List.map_append, List.getD_eq_getElem?_getD]
  by_cases c : j < key.size
  · rw [if_pos c, List.getElem?_append_left (by simp; omega), List.getElem?_map, List.getElem?_eq_getElem (by omega)]
    unfold bt
    rw [dif_pos (by omega)]
    rfl
  · rw [if_neg c, List.getElem?_append_right (by simp; omega), List.getElem?_map]
    have e : (zeros (64 - key.size)).data.toList = List.replicate (64 - key.size) 0 := rfl
    rw [e, List.getElem?_replicate_of_lt (by simp; omega)]
    rfl
theorem reads_put {W : World} {g n : Nat} {xs : List Int} (h : ReadsInt W .u8 (some ⟨g, 0, none⟩) n xs) (i : Nat) (hi : i < n) (v : Int) {old : Value} (hc : W.cell? ⟨g, i, none⟩ = some old) : ReadsInt (W.setCell ⟨g, i, none⟩ (.int .u8 v)) .u8 (some ⟨g, 0, none⟩) n (xs.set i v) := by
  refine ⟨by rw [List.length_set]; exact h.1, h.2.1, fun hp => ?_⟩
  obtain ⟨ad, e, hcell⟩ := h.2.2 hp
  obtain rfl := Option.some.inj e
  have hn := h.1
  refine ⟨_, rfl, fun j hj => ?_⟩
  have hc2 := hcell j hj
  rw [add_plain] at hc2 ⊢
  by_cases c : j = i
  · subst c
    rw [World.cell?_setCell_same _ _ _ hc]
    simp [List.getD_eq_getElem?_getD, List.getElem?_set, hn, hi]
  · rw [World.cell?_setCell_other _ _ _ _ (show (⟨g, i, none⟩ : Addr) ≠ ⟨g, j, none⟩ from fun e => c (by injection e with _ e2; exact e2.symm)), hc2]
    simp [List.getD_eq_getElem?_getD, List.getElem?_set, Ne.symm c]
theorem laid_step (key : ByteArray) (x : Int) (i : Nat) (l : List Int) (hl : l.length = 64) (hi : i < 64) :
    (laidL key x i ++ l.drop i).set i (bits .xor .u8 (keyAt key i) x) = laidL key x (i + 1) ++ l.drop (i + 1) := by
  rw [laidL_succ, List.append_assoc, List.set_append_right _ _ (by rw [laidL_length]; exact Nat.le_refl _), laidL_length, Nat.sub_self, List.drop_eq_getElem_cons (by omega)]
  rfl
theorem laid_at (key : ByteArray) (x : Int) (i : Nat) (l : List Int) (hi : i < l.length) : (laidL key x i ++ l.drop i).getD i 0 = l.getD i 0 := by
  rw [List.getD_eq_getElem?_getD, List.getElem?_append_right (by rw [laidL_length]; exact Nat.le_refl _), laidL_length, Nat.sub_self, List.getElem?_drop, Nat.add_zero, ← List.getD_eq_getElem?_getD]
theorem repeat0 (c : Nat) (w : World) (hc : c ≤ 64) :
    Calls Tryd.prog 34 #[.string ⟨#[0]⟩, .int .i64 (c : Int)] w fun e w' => e = .returned (.string (zeros c)) ∧ Below w.heap.size w w' := by
  have h := Tryd.strings_Repeat ⟨#[0]⟩ c w (by omega) (by show 1 * c ≤ _; omega)
  rw [repeat_zeros] at h
  exact h
set_option maxHeartbeats 4000000 in
set_option maxRecDepth 100000 in
theorem laid_walk (key : ByteArray) (x : Int) (w : World) (HT : Tab w) (hs : key.size ≤ 281474976710656) (hx0 : 0 ≤ x) (hx1 : x ≤ 255) :
    Calls Tryd.prog 38 #[.string key, .int .u8 x] w fun e w' => e = .returned (.string (laidK key x)) ∧ Below w.heap.size w w' := by
  have HT := Aside0.mk HT
  have HS := Aside0.mk hs
  have hkz := keyB_size key
  have HQ : Aside0 (laidK key x = strOfNums (laidL (keyB key) x 64)) := ⟨rfl⟩
  have hcase : (64 < key.size ∧ keyB key = sumK roots key) ∨ (¬ 64 < key.size ∧ keyB key = key) := by
    unfold keyB
    split
    · exact Or.inl ⟨by assumption, rfl⟩
    · exact Or.inr ⟨by assumption, rfl⟩
  have hQ := HQ.out
  generalize laidK key x = R at hQ ⊢
  clear HQ
  go_enter Tryd.func38, Tryd.ntmps38
  rcases hcase with ⟨h64, hk⟩ | ⟨h64, hk⟩
  · have d1 : decide (64 < (key.size : Int)) = true := by simp; omega
    have hsum := fun w h => Aside0.mk (sum_tab key w h HS.out)
    rw [← hk] at hsum
    clear hk
    generalize keyB key = K at hkz hQ hsum
    have HQ := Aside0.mk hQ
    have hkz := hkz
    clear hQ
    go_upto_region 3 with (go_at_call 15; (with_reducible refine ((hsum _ HT.out).out).mono ?_); rintro e w1 ⟨rfl, hb⟩; have HB := Aside0.mk hb; clear hb)
    clear hsum d1 h64
    have HT1 := Aside0.mk (HT.out.step HB.out)
    have hK0 : (K.size : Int) ≤ 64 := by omega
    have hsub : (64 : Int) - (K.size : Int) = ((64 - K.size : Nat) : Int) := by omega
    have hrep := fun w => Aside0.mk (repeat0 (64 - K.size) w (by omega))
    have hpz := padded_size K hkz
    have hpa := padded_at K hkz
    have hzz := zeros_size (64 - K.size)
    have c5 : (K.size + (zeros (64 - K.size)).size ≤ 9223372036854775807) = True := eq_true (by rw [hzz]; omega)
    have c6 : (9223372036854775807 < K.size + (zeros (64 - K.size)).size) = False := eq_false (by rw [hzz]; omega)
    have hpd : Aside0 (K ++ zeros (64 - K.size) = padded K) := ⟨rfl⟩
    generalize zeros (64 - K.size) = Z at hrep c5 c6 hpd
    generalize 64 - K.size = zc at hsub hrep
    clear hzz hkz hK0
    generalize hP : padded K = P at hpz hpa hpd
    clear hP
    have HPZ := Aside0.mk hpz
    have HPA := Aside0.mk hpa
    clear hpz hpa
    have kb : ∀ W, (convert 9 37 (.string (K ++ Z))).run Tryd.prog W = .ok (.slice (some ⟨W.heap.size, 0, none⟩) P.size (grownCap W P.size 0 5)) (Lib.bytesWorld W 5 P) := fun W => by
      rw [hpd.out]; exact print_bytes (P := Tryd.prog) 9 37 5 Tryd.underlying9 Tryd.underlying37 Tryd.underlying5 P W
    go_upto_region 4 with (go_at_call 34; (with_reducible refine ((hrep _).out).mono ?_); rintro e w2 ⟨rfl, hb⟩; have HB2 := Aside0.mk (below_step HB.out hb); clear hb)
    have hsz := bytes_reads w2 5 P (by rw [HPZ.out]; decide)
    have hRD : Aside0 (ReadsInt (Lib.bytesWorld w2 5 P) .u8 (some ⟨w2.heap.size, 0, none⟩) 64 (laidL K x 0 ++ (bytesOf P).drop 0)) := ⟨by rw [HPZ.out] at hsz; exact hsz⟩
    have hFZ : Aside0 (∀ j : Nat, j < 64 → (Lib.bytesWorld w2 5 P).frozen? ⟨w2.heap.size, j, none⟩ = false) := ⟨fun j hj => by
      have hs : j < (Lib.bytesCells w2 5 P).size := by simp [Lib.bytesCells]; have := HPZ.out; omega
      simp [World.frozen?, Lib.bytesWorld_at_new]
      omega⟩
    have HB3 := Aside0.mk (bytes_below HB2.out (below_size HB2.out) 5 P)
    have hge : Aside0 (w.heap.size ≤ w2.heap.size) := ⟨below_size HB2.out⟩
    have hPl : Aside0 ((bytesOf P).length = 64) := ⟨by rw [bytesOf_length, HPZ.out]⟩
    have hz64 : (P.size : Int) = 64 := by rw [HPZ.out]; rfl
    have HZ64 := Aside0.mk hz64
    clear hsz kb hrep hsub c5 c6 HB2 hpd hz64
    generalize grownCap w2 P.size 0 5 = cq
    have hps := HPZ.out
    rw [hps]
    clear hps
    generalize w2.heap.size = q at hRD hFZ hge ⊢
    generalize Lib.bytesWorld w2 5 P = w3 at hRD hFZ HB3 ⊢
    generalize bytesOf P = L at hRD hPl HPA
    go_wp2
    go_loopw [21] (fun v21 wr => ∃ i : Nat, i ≤ 64 ∧ v21 = .int .i64 i ∧ Aside0 (ReadsInt wr .u8 (some ⟨q, 0, none⟩) 64 (laidL K x i ++ L.drop i)) ∧ Aside0 (∀ j : Nat, j < 64 → wr.frozen? ⟨q, j, none⟩ = false) ∧ Aside0 (Below w.heap.size w wr)) (fun v21 _ => 64 - (intOf v21).toNat)
    case atStart => exact ⟨0, by omega, rfl, hRD, hFZ, HB3⟩
    case round =>
      clear hRD hFZ HB3
      obtain ⟨i, hi, rfl, hRD, hFZ, HB3⟩ := hrel
      have hi0 : (0 : Int) ≤ (i : Int) := by omega
      by_cases hlt : i < 64
      · have d1 : (i : Int) < 64 := by omega
        have hcl : wr.cell? ⟨q, i, none⟩ = some (.int .u8 (keyAt K i)) := by
          obtain ⟨ad, e1, hc1⟩ := hRD.out.2.2 (by decide)
          obtain rfl := Option.some.inj e1
          have h := hc1 i hlt
          rw [add_plain, laid_at K x i L (by rw [hPl.out]; exact hlt), HPA.out i hlt] at h
          exact h
        have hfz := hFZ.out i hlt
        have hRN := Aside0.mk (reads_put hRD.out i hlt (bits .xor .u8 (keyAt K i) x) hcl)
        rw [laid_step K x i L hPl.out hlt] at hRN
        have hFN : Aside0 (∀ j : Nat, j < 64 → (wr.setCell ⟨q, i, none⟩ (.int .u8 (bits .xor .u8 (keyAt K i) x))).frozen? ⟨q, j, none⟩ = false) := ⟨fun j hj => by
          rw [World.frozen?_setCell]; exact hFZ.out j hj⟩
        have HBN := Aside0.mk (HB3.out.setCell (p := ⟨q, i, none⟩) hge.out (.int .u8 (bits .xor .u8 (keyAt K i) x)))
        generalize keyAt K i = kx at hcl hRN hFN HBN
        go_wp2
        go_roundw
        case rel => first | exact ⟨i + 1, by omega, by go_num, hRN, hFN, HBN⟩ | ((repeat apply Exists.intro); exact ⟨⟨i + 1, by omega, by go_num, hRN, hFN, HBN⟩, rfl⟩)
        case measure => simp [intOf]; omega
      · obtain rfl : i = 64 := by omega
        have hRS : ReadsInt wr .u8 (some ⟨q, 0, none⟩) 64 (laidL K x 64) := by
          have h := hRD.out
          rw [List.drop_of_length_le (by rw [hPl.out]; exact Nat.le_refl _), List.append_nil] at h
          exact h
        have ks := string_of_reads (P := Tryd.prog) Tryd.underlying37 Tryd.underlying5 Tryd.underlying9 hRS (c := cq)
        clear hRS
        rw [← HQ.out] at ks
        go_wp2
        go_ret
        exact ⟨rfl, HB3.out⟩
  · have d1 : decide (64 < (key.size : Int)) = false := by simp; omega
    rw [hk] at hkz hQ
    have HQ := Aside0.mk hQ
    clear hQ hk
    have HB := Aside0.mk (Below.refl w.heap.size w)
    go_upto_region 3 with fail
    clear d1 h64
    have HT1 := HT
    have hK0 : (key.size : Int) ≤ 64 := by omega
    have hsub : (64 : Int) - (key.size : Int) = ((64 - key.size : Nat) : Int) := by omega
    have hrep := fun w => Aside0.mk (repeat0 (64 - key.size) w (by omega))
    have hpz := padded_size key hkz
    have hpa := padded_at key hkz
    have hzz := zeros_size (64 - key.size)
    have c5 : (key.size + (zeros (64 - key.size)).size ≤ 9223372036854775807) = True := eq_true (by rw [hzz]; omega)
    have c6 : (9223372036854775807 < key.size + (zeros (64 - key.size)).size) = False := eq_false (by rw [hzz]; omega)
    have hpd : Aside0 (key ++ zeros (64 - key.size) = padded key) := ⟨rfl⟩
    generalize zeros (64 - key.size) = Z at hrep c5 c6 hpd
    generalize 64 - key.size = zc at hsub hrep
    clear hzz hkz hK0
    generalize hP : padded key = P at hpz hpa hpd
    clear hP
    have HPZ := Aside0.mk hpz
    have HPA := Aside0.mk hpa
    clear hpz hpa
    have kb : ∀ W, (convert 9 37 (.string (key ++ Z))).run Tryd.prog W = .ok (.slice (some ⟨W.heap.size, 0, none⟩) P.size (grownCap W P.size 0 5)) (Lib.bytesWorld W 5 P) := fun W => by
      rw [hpd.out]; exact print_bytes (P := Tryd.prog) 9 37 5 Tryd.underlying9 Tryd.underlying37 Tryd.underlying5 P W
    go_upto_region 4 with (go_at_call 34; (with_reducible refine ((hrep _).out).mono ?_); rintro e w2 ⟨rfl, hb⟩; have HB2 := Aside0.mk (below_step HB.out hb); clear hb)
    have hsz := bytes_reads w2 5 P (by rw [HPZ.out]; decide)
    have hRD : Aside0 (ReadsInt (Lib.bytesWorld w2 5 P) .u8 (some ⟨w2.heap.size, 0, none⟩) 64 (laidL key x 0 ++ (bytesOf P).drop 0)) := ⟨by rw [HPZ.out] at hsz; exact hsz⟩
    have hFZ : Aside0 (∀ j : Nat, j < 64 → (Lib.bytesWorld w2 5 P).frozen? ⟨w2.heap.size, j, none⟩ = false) := ⟨fun j hj => by
      have hs : j < (Lib.bytesCells w2 5 P).size := by simp [Lib.bytesCells]; have := HPZ.out; omega
      simp [World.frozen?, Lib.bytesWorld_at_new]
      omega⟩
    have HB3 := Aside0.mk (bytes_below HB2.out (below_size HB2.out) 5 P)
    have hge : Aside0 (w.heap.size ≤ w2.heap.size) := ⟨below_size HB2.out⟩
    have hPl : Aside0 ((bytesOf P).length = 64) := ⟨by rw [bytesOf_length, HPZ.out]⟩
    have hz64 : (P.size : Int) = 64 := by rw [HPZ.out]; rfl
    have HZ64 := Aside0.mk hz64
    clear hsz kb hrep hsub c5 c6 HB2 hpd hz64
    generalize grownCap w2 P.size 0 5 = cq
    have hps := HPZ.out
    rw [hps]
    clear hps
    generalize w2.heap.size = q at hRD hFZ hge ⊢
    generalize Lib.bytesWorld w2 5 P = w3 at hRD hFZ HB3 ⊢
    generalize bytesOf P = L at hRD hPl HPA
    go_wp2
    go_loopw [21] (fun v21 wr => ∃ i : Nat, i ≤ 64 ∧ v21 = .int .i64 i ∧ Aside0 (ReadsInt wr .u8 (some ⟨q, 0, none⟩) 64 (laidL key x i ++ L.drop i)) ∧ Aside0 (∀ j : Nat, j < 64 → wr.frozen? ⟨q, j, none⟩ = false) ∧ Aside0 (Below w.heap.size w wr)) (fun v21 _ => 64 - (intOf v21).toNat)
    case atStart => exact ⟨0, by omega, rfl, hRD, hFZ, HB3⟩
    case round =>
      clear hRD hFZ HB3
      obtain ⟨i, hi, rfl, hRD, hFZ, HB3⟩ := hrel
      have hi0 : (0 : Int) ≤ (i : Int) := by omega
      by_cases hlt : i < 64
      · have d1 : (i : Int) < 64 := by omega
        have hcl : wr.cell? ⟨q, i, none⟩ = some (.int .u8 (keyAt key i)) := by
          obtain ⟨ad, e1, hc1⟩ := hRD.out.2.2 (by decide)
          obtain rfl := Option.some.inj e1
          have h := hc1 i hlt
          rw [add_plain, laid_at key x i L (by rw [hPl.out]; exact hlt), HPA.out i hlt] at h
          exact h
        have hfz := hFZ.out i hlt
        have hRN := Aside0.mk (reads_put hRD.out i hlt (bits .xor .u8 (keyAt key i) x) hcl)
        rw [laid_step key x i L hPl.out hlt] at hRN
        have hFN : Aside0 (∀ j : Nat, j < 64 → (wr.setCell ⟨q, i, none⟩ (.int .u8 (bits .xor .u8 (keyAt key i) x))).frozen? ⟨q, j, none⟩ = false) := ⟨fun j hj => by
          rw [World.frozen?_setCell]; exact hFZ.out j hj⟩
        have HBN := Aside0.mk (HB3.out.setCell (p := ⟨q, i, none⟩) hge.out (.int .u8 (bits .xor .u8 (keyAt key i) x)))
        generalize keyAt key i = kx at hcl hRN hFN HBN
        go_wp2
        go_roundw
        case rel => first | exact ⟨i + 1, by omega, by go_num, hRN, hFN, HBN⟩ | ((repeat apply Exists.intro); exact ⟨⟨i + 1, by omega, by go_num, hRN, hFN, HBN⟩, rfl⟩)
        case measure => simp [intOf]; omega
      · obtain rfl : i = 64 := by omega
        have hRS : ReadsInt wr .u8 (some ⟨q, 0, none⟩) 64 (laidL key x 64) := by
          have h := hRD.out
          rw [List.drop_of_length_le (by rw [hPl.out]; exact Nat.le_refl _), List.append_nil] at h
          exact h
        have ks := string_of_reads (P := Tryd.prog) Tryd.underlying37 Tryd.underlying5 Tryd.underlying9 hRS (c := cq)
        clear hRS
        rw [← HQ.out] at ks
        go_wp2
        go_ret
        exact ⟨rfl, HB3.out⟩
def innerK (key : ByteArray) : ByteArray := laidK key 54
def outerK (key : ByteArray) : ByteArray := laidK key 92
/-- the tag of a text by a key -/
def tagK (key text : ByteArray) : ByteArray := sumK roots (outerK key ++ sumK roots (innerK key ++ text))
theorem tagK_size (key text : ByteArray) : (tagK key text).size = 32 := sumK_size _ _
set_option maxHeartbeats 4000000 in
theorem inner_walk (key : ByteArray) (w : World) (HT : Tab w) (hs : key.size ≤ 281474976710656) :
    Calls Tryd.prog 19 #[.string key] w fun e w' => e = .returned (.string (innerK key)) ∧ Below w.heap.size w w' := by
  have hL := fun w h => Aside0.mk (laid_walk key 54 w h hs (by decide) (by decide))
  have HT := Aside0.mk HT
  go_enter Tryd.func19, Tryd.ntmps19
  go_wp2_with (go_at_call 38; (with_reducible refine ((hL _ HT.out).out).mono ?_); rintro e w1 ⟨rfl, hb⟩; have HB := Aside0.mk hb; clear hb)
  go_ret
  exact ⟨rfl, HB.out⟩
set_option maxHeartbeats 4000000 in
theorem outer_walk (key : ByteArray) (w : World) (HT : Tab w) (hs : key.size ≤ 281474976710656) :
    Calls Tryd.prog 21 #[.string key] w fun e w' => e = .returned (.string (outerK key)) ∧ Below w.heap.size w w' := by
  have hL := fun w h => Aside0.mk (laid_walk key 92 w h hs (by decide) (by decide))
  have HT := Aside0.mk HT
  go_enter Tryd.func21, Tryd.ntmps21
  go_wp2_with (go_at_call 38; (with_reducible refine ((hL _ HT.out).out).mono ?_); rintro e w1 ⟨rfl, hb⟩; have HB := Aside0.mk hb; clear hb)
  go_ret
  exact ⟨rfl, HB.out⟩
set_option maxHeartbeats 4000000 in
theorem tag_walk (key text : ByteArray) (w : World) (HT : Tab w) (hs : key.size ≤ 281474976710000) (ht : text.size ≤ 281474976710000) :
    Calls Tryd.prog 24 #[.string key, .string text] w fun e w' => e = .returned (.string (tagK key text)) ∧ Below w.heap.size w w' := by
  have hO := fun w h => Aside0.mk (outer_walk key w h (by omega))
  have hI := fun w h => Aside0.mk (inner_walk key w h (by omega))
  have zo : (outerK key).size = 64 := laidK_size _ _
  have zi : (innerK key).size = 64 := laidK_size _ _
  have zs : (sumK roots (innerK key ++ text)).size = 32 := sumK_size _ _
  have h1 := fun w h => Aside0.mk (sum_tab (innerK key ++ text) w h (by rw [ByteArray.size_append]; omega))
  have h2 := fun w h => Aside0.mk (sum_tab (outerK key ++ sumK roots (innerK key ++ text)) w h (by rw [ByteArray.size_append]; omega))
  have HQ : Aside0 (tagK key text = sumK roots (outerK key ++ sumK roots (innerK key ++ text))) := ⟨rfl⟩
  have HT := Aside0.mk HT
  have c1 : ((innerK key).size + text.size ≤ 9223372036854775807) = True := eq_true (by omega)
  have c2 : (9223372036854775807 < (innerK key).size + text.size) = False := eq_false (by omega)
  have c3 : ((outerK key).size + (sumK roots (innerK key ++ text)).size ≤ 9223372036854775807) = True := eq_true (by omega)
  have c4 : (9223372036854775807 < (outerK key).size + (sumK roots (innerK key ++ text)).size) = False := eq_false (by omega)
  clear zo zi zs
  generalize outerK key = O at hO h2 HQ c3 c4
  generalize innerK key = I at hI h1 h2 HQ c1 c2 c3 c4
  generalize sumK roots (I ++ text) = D at h1 h2 HQ c3 c4
  go_enter Tryd.func24, Tryd.ntmps24
  go_wp2_with (first
    | (go_at_call 21; (with_reducible refine ((hO _ HT.out).out).mono ?_); rintro e w1 ⟨rfl, hb⟩; have HB1 := Aside0.mk hb; have HT1 := Aside0.mk (HT.out.step hb); clear hb)
    | (go_at_call 19; (with_reducible refine ((hI _ HT1.out).out).mono ?_); rintro e w2 ⟨rfl, hb⟩; have HB2 := Aside0.mk (below_step HB1.out hb); have HT2 := Aside0.mk (HT1.out.step hb); clear hb)
    | (go_at_call 15; (with_reducible refine ((h1 _ HT2.out).out).mono ?_); rintro e w3 ⟨rfl, hb⟩; have HB3 := Aside0.mk (below_step HB2.out hb); have HT3 := Aside0.mk (HT2.out.step hb); clear hb h1)
    | (go_at_call 15; (with_reducible refine ((h2 _ HT3.out).out).mono ?_); rintro e w4 ⟨rfl, hb⟩; have HB4 := Aside0.mk (below_step HB3.out hb); clear hb))
  go_ret
  exact ⟨by rw [HQ.out]; rfl, HB4.out⟩
end Go.Proofs.YtelhajoedlaohaaDoor.Sha
