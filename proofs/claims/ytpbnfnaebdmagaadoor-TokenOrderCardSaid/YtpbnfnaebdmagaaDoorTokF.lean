/-
  A token with one byte of its tag turned is none; a short one, too.
-/
import Derived.Test.YtpbnfnaebdmagaaDoorPTx55
import Derived.Test.YtpbnfnaebdmagaaDoorTokV
namespace Go.Proofs.YtpbnfnaebdmagaaDoor.Tk
set_option linter.unusedVariables false
set_option linter.unusedSimpArgs false
open Go Go.RowKit Go.Proofs.YtpbnfnaebdmagaaDoor.Plain Go.Proofs.YtpbnfnaebdmagaaDoor.Words Go.Proofs.YtpbnfnaebdmagaaDoor.PT Go.Proofs.YtpbnfnaebdmagaaDoorW.PrintWords Go.Proofs.YtpbnfnaebdmagaaDoorW.PrintLast Go.Proofs.YtpbnfnaebdmagaaDoorW.PrintMore
def setB (s : ByteArray) (i : Nat) (x : Int) : ByteArray := strOfNums ((bytesOf s).set i x)
theorem strs_bytes (s : ByteArray) : strOfNums (bytesOf s) = s := by
  apply ByteArray.ext
  apply Array.ext'
  have e : (strOfNums (bytesOf s)).data.toList = (bytesOf s).map fun n => UInt8.ofNat n.toNat := rfl
  rw [e]
  unfold bytesOf
  rw [List.map_map]
  conv => rhs; rw [← List.map_id s.data.toList]
  apply List.map_congr_left
  intro b _
  simp
theorem bytesOf_append (A B : ByteArray) : bytesOf (A ++ B) = bytesOf A ++ bytesOf B := by
  unfold bytesOf; rw [data_append, List.map_append]
theorem setB_right (A B : ByteArray) (j : Nat) (x : Int) : setB (A ++ B) (A.size + j) x = A ++ setB B j x := by
  unfold setB
  rw [bytesOf_append, List.set_append_right _ _ (by rw [bytesOf_length]; omega), bytesOf_length, Nat.add_sub_cancel_left, strOfNums_append, strs_bytes]
theorem size_setB (s : ByteArray) (i : Nat) (x : Int) : (setB s i x).size = s.size := by
  unfold setB; rw [size_strOfNums, List.length_set, bytesOf_length]
theorem xor_left_cancel {a b c : Nat} (h : a ^^^ b = a ^^^ c) : b = c := by
  have e : a ^^^ (a ^^^ b) = a ^^^ (a ^^^ c) := by rw [h]
  rwa [← Nat.xor_assoc, ← Nat.xor_assoc, Nat.xor_self, Nat.zero_xor, Nat.zero_xor] at e
theorem turned_byte (x : Int) (h0 : 0 ≤ x) (h1 : x ≤ 255) (e : Nat) (he : e < 8) : (0 ≤ bits .xor .u8 x (2 ^ e) ∧ bits .xor .u8 x (2 ^ e) < 256) ∧ x ≠ bits .xor .u8 x (2 ^ e) := by
  have hp : ∃ m : Nat, (2 : Int) ^ e = (m : Int) ∧ 0 < m ∧ m < 256 := by
    rcases (show e = 0 ∨ e = 1 ∨ e = 2 ∨ e = 3 ∨ e = 4 ∨ e = 5 ∨ e = 6 ∨ e = 7 by omega) with rfl | rfl | rfl | rfl | rfl | rfl | rfl | rfl
    · exact ⟨1, rfl, by decide, by decide⟩
    · exact ⟨2, rfl, by decide, by decide⟩
    · exact ⟨4, rfl, by decide, by decide⟩
    · exact ⟨8, rfl, by decide, by decide⟩
    · exact ⟨16, rfl, by decide, by decide⟩
    · exact ⟨32, rfl, by decide, by decide⟩
    · exact ⟨64, rfl, by decide, by decide⟩
    · exact ⟨128, rfl, by decide, by decide⟩
  obtain ⟨m, hm, m0, m1⟩ := hp
  rw [hm, Ms.xor_u8 x m h0 (by omega) (by omega) (by omega)]
  have hl := Nat.xor_lt_two_pow (x := x.toNat) (y := (m : Int).toNat) (n := 8) (by omega) (by omega)
  refine ⟨by omega, fun e2 => ?_⟩
  have e3 : x.toNat ^^^ (m : Int).toNat = x.toNat ^^^ 0 := by rw [Nat.xor_zero]; omega
  have := xor_left_cancel e3
  omega
theorem bt_set (s : ByteArray) (i : Nat) {x : Int} (h : i < s.size) (hx : 0 ≤ x ∧ x < 256) : bt (setB s i x) i = x := by
  unfold setB
  rw [Ms.bt_nums _ i (by rw [List.length_set, bytesOf_length]; exact h) (by rw [List.getElem_set_self]; exact hx), List.getElem_set_self]
theorem set_ne (s : ByteArray) (i : Nat) (h : i < s.size) (e : Nat) (he : e < 8) : setB s i (bits .xor .u8 (bt s i) (2 ^ e)) ≠ s := fun q => by
  have hr := bt_range s i
  obtain ⟨h1, h2⟩ := turned_byte (bt s i) hr.1 (by omega) e he
  have h3 := bt_set s i h h1
  rw [q] at h3
  exact h2 h3
theorem bt_right (A B : ByteArray) (j : Nat) (h : j < B.size) : bt (A ++ B) ((A.size + j : Nat) : Int) = bt B (j : Nat) := by
  rw [bt_data _ _ (by rw [ByteArray.size_append]; omega), bt_data _ _ h, data_append]
  have hl : A.data.toList.length = A.size := Array.length_toList
  rw [List.getD_eq_getElem?_getD, List.getElem?_append_right (by omega), hl, Nat.add_sub_cancel_left, ← List.getD_eq_getElem?_getD]
theorem app_head (A B : ByteArray) : (A ++ B).extract 0 A.size = A := by
  have e := cut_mid ByteArray.empty A B
  rw [ByteArray.empty_append] at e
  simpa using e
theorem app_tail (A B : ByteArray) : (A ++ B).extract A.size (A ++ B).size = B := by
  have e := cut_mid A B ByteArray.empty
  rw [ByteArray.append_empty] at e
  rw [ByteArray.size_append]
  exact e
theorem parse_tok {a b c d : Int} (T : ByteArray) (hT : T.size = 32) (ha : i64 a) (hb : i64 b) (hc : i64 c) (hd : i64 d) (h0 : 0 ≤ a ∧ a ≤ 2147483647) (h1 : 0 ≤ b ∧ b ≤ 2147483647) : parseR (tokB a b c d ++ T) = (a, b, c, d, T, 0) := by
  have hz : (tokB a b c d ++ T).size = (tokB a b c d).size + 32 := by rw [ByteArray.size_append, hT]
  have hn : (tokB a b c d ++ T).size - 32 = (tokB a b c d).size := by omega
  unfold parseR
  rw [if_neg (by omega), hn, app_head, getP_tok ha hb hc hd]
  rw [norm_tok]
  show (if (0 : Int) = 0 then (if (2 : Int) = 2 then body (tokB a b c d ++ T) [⟨0, a, ⟨#[]⟩, []⟩, ⟨0, b, ⟨#[]⟩, []⟩, ⟨0, c, ⟨#[]⟩, []⟩, ⟨0, d, ⟨#[]⟩, []⟩] else no6 4) else no6 0) = _
  rw [if_pos rfl, if_pos rfl, body4, hn, app_tail]
  simp [h0, h1]
theorem ver_tok (key T : ByteArray) {a b c d : Int} (now epoch : Int) (hT : T.size = 32) (hne : T ≠ Sha.tagK key (tokB a b c d)) (ha : i64 a) (hb : i64 b) (hc : i64 c) (hd : i64 d) (h0 : 0 ≤ a ∧ a ≤ 2147483647) (h1 : 0 ≤ b ∧ b ≤ 2147483647) :
    verR key (tokB a b c d ++ T) now epoch = (0, 0, 0, 0, 20) := by
  have hz : (tokB a b c d ++ T).size = (tokB a b c d).size + 32 := by rw [ByteArray.size_append, hT]
  have hn : (tokB a b c d ++ T).size - 32 = (tokB a b c d).size := by omega
  unfold verR
  rw [parse_tok T hT ha hb hc hd h0 h1, hn, app_head, if_pos rfl]
  rw [if_neg (fun e => hne (ByteArray.ext (Array.ext' (by rw [← toList_data, ← toList_data]; exact e))))]
/-- a token with one bit of its tag turned -/
theorem ver_turned (key : ByteArray) {a b c d : Int} (now epoch : Int) (j e : Nat) (hj : j < 32) (he : e < 8) (ha : i64 a) (hb : i64 b) (hc : i64 c) (hd : i64 d) (h0 : 0 ≤ a ∧ a ≤ 2147483647) (h1 : 0 ≤ b ∧ b ≤ 2147483647) (p : Nat) (hp : p = (mintR key a b c d).size - 32 + j) :
    verR key (strOfNums ((bytesOf (mintR key a b c d)).set p (bits .xor .u8 (bt (mintR key a b c d) (p : Int)) (2 ^ e)))) now epoch = (0, 0, 0, 0, 20) := by
  have hT := Sha.tagK_size key (tokB a b c d)
  have hn : p = (tokB a b c d).size + j := by rw [hp, mint_size]; omega
  subst hn
  have e1 : strOfNums ((bytesOf (mintR key a b c d)).set ((tokB a b c d).size + j) (bits .xor .u8 (bt (mintR key a b c d) (((tokB a b c d).size + j : Nat) : Int)) (2 ^ e))) = tokB a b c d ++ setB (Sha.tagK key (tokB a b c d)) j (bits .xor .u8 (bt (Sha.tagK key (tokB a b c d)) (j : Nat)) (2 ^ e)) := by
    unfold mintR
    rw [bt_right _ _ _ (by omega)]
    exact setB_right _ _ _ _
  rw [e1]
  exact ver_tok key _ now epoch (by rw [size_setB, hT]) (set_ne _ _ (by omega) e he) ha hb hc hd h0 h1
theorem ver_short (key s : ByteArray) (now epoch : Int) (h : s.size < 32) : verR key s now epoch = (0, 0, 0, 0, 3) := by
  have e : parseR s = no6 3 := by unfold parseR; rw [if_pos h]
  unfold verR
  rw [e]
  rfl
end Go.Proofs.YtpbnfnaebdmagaaDoor.Tk
