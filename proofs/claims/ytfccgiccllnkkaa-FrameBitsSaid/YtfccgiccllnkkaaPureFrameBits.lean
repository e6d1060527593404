/- Of all bodies, a place among them and a bit: of frames in which one bit of the k-th one's check sum or body is turned just those ahead are told. No condition beyond the statement's own. -/
import Derived.Test.YtfccgiccllnkkaaPYx3
namespace Go.Proofs.Ytfccgiccllnkkaa.Pure
set_option linter.unusedVariables false
set_option linter.unusedSimpArgs false
open Go Go.RowKit Go.Proofs.Ytfccgiccllnkkaa.Plain Go.Proofs.Ytfccgiccllnkkaa.Words Go.Proofs.Ytfccgiccllnkkaa.PY Go.Proofs.YtfccgiccllnkkaaW.PrintWords Go.Proofs.YtfccgiccllnkkaaW.PrintLast Go.Proofs.YtfccgiccllnkkaaW.PrintMore
theorem bv8 (x : Int) (h0 : 0 ≤ x) (h1 : x < 256) : (BitVec.ofInt 8 x).toNat = x.toNat := by
  rw [BitVec.toNat_ofInt]; omega
theorem xor_u8 (x y : Int) (h0 : 0 ≤ x) (h1 : x < 256) (k0 : 0 ≤ y) (k1 : y < 256) : bits .xor .u8 x y = ((x.toNat ^^^ y.toNat : Nat) : Int) := by
  show IntKind.u8.wrap ((BitVec.ofInt 8 x ^^^ BitVec.ofInt 8 y).toNat : Int) = _
  rw [BitVec.toNat_xor, bv8 x h0 h1, bv8 y k0 k1]
  have := Nat.xor_lt_two_pow (x := x.toNat) (y := y.toNat) (n := 8) (by omega) (by omega)
  simp [IntKind.wrap, IntKind.bits, IntKind.signed]
  omega
theorem turned_byte (x : Int) (h0 : 0 ≤ x) (h1 : x ≤ 255) (e : Nat) (he : e < 8) : (0 ≤ bits .xor .u8 x (2 ^ e) ∧ bits .xor .u8 x (2 ^ e) < 256) ∧ x ≠ bits .xor .u8 x (2 ^ e) := by
  have hp : ∃ m : Nat, (2 : Int) ^ e = (m : Int) ∧ 0 < m ∧ m < 256 := by
    rcases (show e = 0 ∨ e = 1 ∨ e = 2 ∨ e = 3 ∨ e = 4 ∨ e = 5 ∨ e = 6 ∨ e = 7 by omega) with rfl | rfl | rfl | rfl | rfl | rfl | rfl | rfl
    · exact ⟨1, rfl, by decide, by decide⟩
    · exact ⟨2, rfl, by decide, by decide⟩
    · exact ⟨4, rfl, by decide, by decide⟩
    · exact ⟨8, rfl, by decide, by decide⟩
    · exact ⟨16, rfl, by decide, by decide⟩
    · exact ⟨32, rfl, by decide, by decide⟩
    · exact ⟨64, rfl, by decide, by decide⟩
    · exact ⟨128, rfl, by decide, by decide⟩
  obtain ⟨m, hm, m0, m1⟩ := hp
  rw [hm, xor_u8 x m h0 (by omega) (by omega) (by omega)]
  have hl := Nat.xor_lt_two_pow (x := x.toNat) (y := (m : Int).toNat) (n := 8) (by omega) (by omega)
  refine ⟨by omega, fun e2 => ?_⟩
  have e3 : x.toNat ^^^ (m : Int).toNat = x.toNat ^^^ 0 := by rw [Nat.xor_zero]; omega
  have := xor_left_cancel e3
  omega
/-- a body that may stand in the law's list -/
def small (b : ByteArray) : Prop := 0 < b.size ∧ b.size ≤ 300
theorem small_valid {b : ByteArray} (h : small b) : valid b = true := decide_eq_true ⟨h.1, by have := h.2; omega⟩
theorem size_encS (bs : List ByteArray) (h : ∀ b ∈ bs, small b) : (encF bs).size ≤ 306 * bs.length := by
  induction bs with
  | nil => exact Nat.le_refl _
  | cons b r ih =>
    have := ih (fun x hx => h x (List.mem_cons_of_mem _ hx))
    have hv := h b (List.mem_cons_self ..)
    unfold small at hv
    simp only [encF, ByteArray.size_append, size_frameB, List.length_cons]
    omega
theorem tail_true (fb : List ByteArray) (hv : ∀ b ∈ fb, small b) (hl : fb.length ≤ 10) (i : Nat) (b : ByteArray) (hb : fb[i]? = some b) (bit : Nat) (hbit : bit < 8 * (4 + b.size)) (K : Nat) (hK : 60000 ≤ K) :
    tailF K (encF fb) (((encF (fb.take i)).size : Int) + 2) (bit : Int) fb (i : Int) = some true := by
  obtain ⟨hlt, hbe⟩ := List.getElem?_eq_some_iff.1 hb
  have hsz := size_encS fb hv
  have hsm := hv b (List.mem_of_getElem? hb)
  have ht : (encF (fb.take i)).size + (6 + b.size) ≤ (encF fb).size := by
    conv => rhs; rw [← List.take_append_drop i fb, List.drop_eq_getElem_cons hlt, hbe, encF_append]
    simp only [encF, ByteArray.size_append, size_frameB]
    omega
  have e1 : ((encF (fb.take i)).size : Int) + 2 + (bit : Int) / 8 = (((encF (fb.take i)).size + (2 + bit / 8) : Nat) : Int) := by omega
  have e2 : ((bit : Int) % 8).toNat = bit % 8 := by omega
  have hr := bt_range (encF fb) (((encF (fb.take i)).size + (2 + bit / 8) : Nat) : Int)
  have htb := turned_byte _ hr.1 hr.2 (bit % 8) (by omega)
  have hA := fall_turned fb i b hb (fun b hb => small_valid (hv b hb)) (bit / 8) (by omega) htb.1 (by omega) (by omega) htb.2 K (by omega)
  unfold tailF
  rw [e1, e2, Int.toNat_natCast, hA, Option.bind_some, if_pos]
  unfold good
  refine ⟨by rw [Int.toNat_natCast], by omega, by omega, by omega, by omega, by omega, by omega, by omega, by omega⟩
def fr (fb : List ByteArray) (i j : Nat) : Int := if i < j then ((encF (fb.take i)).size : Int) + 2 else 0
def sz (b : ByteArray) (i j : Nat) : Int := if i < j then 4 + (b.size : Int) else 0
theorem take_snoc (fb : List ByteArray) (j : Nat) (c : ByteArray) (h : fb[j]? = some c) : encF (fb.take (j + 1)) = encF (fb.take j) ++ frameB c := by
  rw [List.take_add_one, h]
  show encF (fb.take j ++ [c]) = _
  rw [encF_append]
  simp [encF]
theorem put_small (b : ByteArray) (h : small b) (k : Nat) (hk : 50000 ≤ k) : frame_Put.f k b = some (frameB b, 0) := by
  have hs := h.2
  have h0 := h.1
  have := fput_some (s := b) k (by omega) hk
  rw [this]; unfold frameR; rw [if_neg (by omega), if_neg (by omega)]
theorem l1_end (a2 : Int) (fb : List ByteArray) (hv : ∀ b ∈ fb, small b) (hl : fb.length ≤ 10) (i : Nat) (b : ByteArray) (hb : fb[i]? = some b) (k : Nat) (hk : 60000 ≤ k) :
    precinctlaw03_FrameBits.l1 (k + 1) (i : Int) a2 fb (encF fb) (((encF (fb.take i)).size : Int) + 2) (4 + (b.size : Int)) fb (fb.length : Int) (fb.length : Int) = some true := by
  have hsm := hv b (List.mem_of_getElem? hb)
  unfold small at hsm
  rw [precinctlaw03_FrameBits.l1, if_neg (by omega), w64 (by omega) (by omega), if_neg (by omega)]
  have m0 : 0 ≤ mx 0 a2 := by unfold mx; split <;> omega
  obtain ⟨bit, hbit⟩ := Int.eq_ofNat_of_zero_le (Int.emod_nonneg (mx 0 a2) (show (8 * (4 + (b.size : Int))) ≠ 0 by omega))
  have hlt := Int.emod_lt_of_pos (mx 0 a2) (show 0 < (8 * (4 + (b.size : Int))) by omega)
  rw [hbit] at hlt ⊢
  exact tail_true fb hv hl i b hb bit (by omega) k hk
theorem l1_loop (a2 : Int) (fb : List ByteArray) (hv : ∀ b ∈ fb, small b) (hl : fb.length ≤ 10) (i : Nat) (b : ByteArray) (hb : fb[i]? = some b) (d : Nat) : ∀ (j k : Nat), j + d = fb.length → 60000 + 2 * d ≤ k →
    precinctlaw03_FrameBits.l1 (k + 1) (i : Int) a2 fb (encF (fb.take j)) (fr fb i j) (sz b i j) fb (fb.length : Int) (j : Int) = some true := by
  obtain ⟨hlt, hbe⟩ := List.getElem?_eq_some_iff.1 hb
  induction d with
  | zero =>
    intro j k hj hk
    obtain rfl : j = fb.length := by omega
    have e1 : fr fb i fb.length = ((encF (fb.take i)).size : Int) + 2 := by unfold fr; rw [if_pos hlt]
    have e2 : sz b i fb.length = 4 + (b.size : Int) := by unfold sz; rw [if_pos hlt]
    rw [List.take_length, e1, e2]
    exact l1_end a2 fb hv hl i b hb k hk
  | succ d ih =>
    intro j k hj hk
    obtain ⟨k, rfl⟩ : ∃ m, k = m + 2 := ⟨k - 2, by omega⟩
    have hjl : j < fb.length := by omega
    have hc : fb[j]? = some fb[j] := List.getElem?_eq_getElem hjl
    have er : rdOf ByteArray.empty fb (j : Int) = fb[j] := by unfold rdOf; rw [show ((j : Int)).toNat = j by omega, List.getD_eq_getElem?_getD, hc]; rfl
    have hsm := hv fb[j] (List.getElem_mem hjl)
    have hz : (frameB fb[j]).size = 6 + fb[j].size := size_frameB _
    have hst := take_snoc fb j fb[j] hc
    have hss := size_encS (fb.take j) (fun b hb => hv b (List.mem_of_mem_take hb))
    have hlt2 : (fb.take j).length ≤ 10 := by rw [List.length_take]; omega
    have hsm' := hsm
    unfold small at hsm'
    have nx := ih (j + 1) k (by omega) (by omega)
    rw [hst] at nx
    have ewj : wrap64 ((j : Int) + 1) = ((j + 1 : Nat) : Int) := by rw [w64 (by omega) (by omega)]; omega
    have hd : decide (((frameB fb[j]).size : Int) < 7) = false := decide_eq_false (by omega)
    rw [precinctlaw03_FrameBits.l1, if_pos (by omega), if_pos (by omega), if_pos (by omega), er, put_small _ hsm (k + 2) (by omega), Option.bind_some, if_pos rfl]
    simp only
    rw [hd, precinctlaw03_FrameBits.j3, if_neg (by simp), ewj]
    by_cases c : j = i
    · subst c
      have hbj : fb[j] = b := hbe
      rw [if_pos rfl, if_pos (by omega), w64 (n := ((encF (fb.take j)).size : Int) + 2) (by omega) (by omega), w64 (n := ((frameB fb[j]).size : Int) - 2) (by omega) (by omega)]
      have e1 : fr fb j (j + 1) = ((encF (fb.take j)).size : Int) + 2 := by unfold fr; rw [if_pos (by omega)]
      have e2 : sz b j (j + 1) = ((frameB fb[j]).size : Int) - 2 := by unfold sz; rw [if_pos (by omega), hz, hbj]; omega
      rw [e1, e2] at nx
      exact nx
    · rw [if_neg (by omega), if_pos (by omega)]
      have e1 : fr fb i (j + 1) = fr fb i j := by
        unfold fr
        by_cases c2 : i < j
        · rw [if_pos c2, if_pos (by omega)]
        · rw [if_neg c2, if_neg (by omega)]
      have e2 : sz b i (j + 1) = sz b i j := by
        unfold sz
        by_cases c2 : i < j
        · rw [if_pos c2, if_pos (by omega)]
        · rw [if_neg c2, if_neg (by omega)]
      rw [e1, e2] at nx
      exact nx
theorem bits_end (a1 a2 : Int) (fb : List ByteArray) (L : List ByteArray) (i : Int) (hv : ∀ b ∈ fb, small b) (hl : fb.length ≤ 10) (hi : ¬ i < (L.length : Int)) (k : Nat) (hk : 60100 ≤ k) :
    precinctlaw03_FrameBits.l0 (k + 1) a1 a2 fb (⟨#[]⟩ : ByteArray) 0 0 L (L.length : Int) i = some true := by
  rw [precinctlaw03_FrameBits.l0, if_neg hi, fwakes_some k (by omega), Option.bind_some, if_pos rfl]
  obtain ⟨k, rfl⟩ : ∃ m, k = m + 2 := ⟨k - 2, by omega⟩
  rw [precinctlaw03_FrameBits.j1]
  by_cases c : (fb.length : Int) = 0
  · have hb : ((fb.length : Int) == 0) = true := by simp [c]
    rw [if_pos hb, fwakes_some _ (by omega)]; rfl
  · have hb : ((fb.length : Int) == 0) = false := by simp; intro h; exact c (by simp [h])
    rw [if_neg (by rw [hb]; simp), if_neg c]
    have m0 : 0 ≤ mx 0 a1 := by unfold mx; split <;> omega
    obtain ⟨j, hj⟩ := Int.eq_ofNat_of_zero_le (Int.emod_nonneg (mx 0 a1) c)
    have hlt := Int.emod_lt_of_pos (mx 0 a1) (show 0 < (fb.length : Int) by omega)
    rw [hj] at hlt ⊢
    have hjl : j < fb.length := by omega
    have e := l1_loop a2 fb hv hl j fb[j] (List.getElem?_eq_getElem hjl) fb.length 0 k (by omega) (by omega)
    have e1 : fr fb j 0 = 0 := by unfold fr; rw [if_neg (by omega)]
    have e2 : sz fb[j] j 0 = 0 := by unfold sz; rw [if_neg (by omega)]
    rw [e1, e2] at e
    exact e
theorem bits_loop (a1 a2 : Int) (L : List ByteArray) (hL : L.length ≤ 10) (hw : ∀ x ∈ L, x.size ≤ maxLen) (d : Nat) : ∀ (i : Nat) (fb : List ByteArray) (k : Nat), i + d = L.length → (∀ b ∈ fb, small b) → fb.length ≤ i → 60100 + 2 * d ≤ k →
    precinctlaw03_FrameBits.l0 (k + 1) a1 a2 fb (⟨#[]⟩ : ByteArray) 0 0 L (L.length : Int) i = some true := by
  induction d with
  | zero => intro i fb k hi hv hf hk; exact bits_end a1 a2 fb L i hv (by omega) (by omega) k (by omega)
  | succ d ih =>
    intro i fb k hi hv hf hk
    obtain ⟨k, rfl⟩ : ∃ m, k = m + 1 := ⟨k - 1, by omega⟩
    have er : rdOf ByteArray.empty L (i : Int) = L.getD i ByteArray.empty := by unfold rdOf; rw [show ((i : Int)).toNat = i by omega]
    generalize L.getD i ByteArray.empty = b at er
    have m0 : 0 ≤ mn (b.size : Int) 300 ∧ mn (b.size : Int) 300 ≤ 300 ∧ mn (b.size : Int) 300 ≤ b.size := by unfold mn; split <;> omega
    have hz : (b.extract 0 ((mn (b.size : Int) 300) : Int).toNat).size = ((mn (b.size : Int) 300) : Int).toNat := by rw [ByteArray.size_extract]; omega
    have ew : wrap64 ((i : Int) + 1) = ((i + 1 : Nat) : Int) := by rw [w64 (by omega) (by omega)]; omega
    rw [precinctlaw03_FrameBits.l0, if_pos (by omega), if_pos (by omega), if_pos (by omega), er, if_pos m0.1, if_pos m0.2.2, ew]
    generalize b.extract 0 ((mn (b.size : Int) 300) : Int).toNat = c at hz ⊢
    by_cases h0 : c.size = 0
    · rw [if_pos ((nil_size c).2 h0)]
      exact ih (i + 1) fb k (by omega) hv (by omega) (by omega)
    · rw [if_neg (fun h => h0 ((nil_size c).1 h)), if_pos (by omega)]
      refine ih (i + 1) (fb ++ [c]) k (by omega) ?_ (by simp; omega) (by omega)
      intro x hx
      rcases List.mem_append.1 hx with hx | hx
      · exact hv x hx
      · rw [List.mem_singleton.1 hx]; exact ⟨by omega, by omega⟩
theorem FrameBits : ∀ (l0 : List (ByteArray)) (a1 : Int) (a2 : Int), (∀ x ∈ l0, x.size ≤ maxLen) → l0.length ≤ maxLen → (Lit.int .i64 a1).wf = true → (Lit.int .i64 a2).wf = true → ∃ k, precinctlaw03_FrameBits.f k l0 a1 a2 = some true := by
  intro l0 a1 a2 hw hl h1 h2
  refine ⟨60201, ?_⟩
  unfold precinctlaw03_FrameBits.f
  have m0 : 0 ≤ mn (l0.length : Int) 10 ∧ mn (l0.length : Int) 10 ≤ 10 ∧ mn (l0.length : Int) 10 ≤ l0.length := by unfold mn; split <;> omega
  rw [if_pos m0.1, if_pos m0.2.2]
  have hw' : ∀ x ∈ l0.take ((mn (l0.length : Int) 10) : Int).toNat, x.size ≤ maxLen := fun x hx => hw x (List.mem_of_mem_take hx)
  have n0 : (l0.take ((mn (l0.length : Int) 10) : Int).toNat).length ≤ 10 := by rw [List.length_take]; omega
  exact bits_loop a1 a2 _ n0 hw' (l0.take ((mn (l0.length : Int) 10) : Int).toNat).length 0 [] 60200 (by omega) (fun b hb => by cases hb) (by simp) (by omega)
end Go.Proofs.Ytfccgiccllnkkaa.Pure
