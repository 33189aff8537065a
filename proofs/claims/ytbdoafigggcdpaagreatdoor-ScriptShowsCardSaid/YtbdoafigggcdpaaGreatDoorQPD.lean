/- The document's answer of what lines have a text is the program's. No condition of ours. -/
import Derived.Test.YtbdoafigggcdpaaGreatDoorQME
import Derived.Test.YtbdoafigggcdpaaGreatDoorQRD
namespace Go.Proofs.YtbdoafigggcdpaaGreatDoor.PScr
open Go.RowKit Go.Proofs.YtbdoafigggcdpaaGreatDoorW.PrintWords Go.Proofs.YtbdoafigggcdpaaGreatDoorW.PrintLast Go.Proofs.YtbdoafigggcdpaaGreatDoorW.PrintMore
set_option linter.unusedVariables false
set_option linter.unusedSimpArgs false

theorem bt_get (s : ByteArray) (i : Nat) (h : i < s.size) : bt s (i : Int) = ((s.get! i).toNat : Int) := by
  rw [get_get s i h]
  unfold bt
  simp [h]
theorem wrap_up (i : Nat) (h : i < 9223372036854775807) : wrap64 ((i : Int) + 1) = ((i + 1 : Nat) : Int) := by unfold wrap64; omega
theorem range_all (q : Nat → Bool) (i d : Nat) : (List.range' i (d + 1)).all q = (q i && (List.range' (i + 1) d).all q) := by rw [List.range'_succ]; rfl
theorem refName_l0 (s : ByteArray) (hs : s.size < 9223372036854775808) : ∀ (d i k : Nat), i + d = s.size → lunetteref11_Name.l0 (k + d + 1) s (i : Int) = some (((List.range' i d).all fun j => nameAt j (s.get! j).toNat) && decide (s.size ≠ 0) && decide (s.size ≤ 12))
  | 0, i, k, h => by
    unfold lunetteref11_Name.l0
    rw [if_neg (by omega)]
    by_cases h1 : 1 ≤ s.size
    · rw [if_pos (by omega)]
      have e : decide (s.size ≠ 0) = true := decide_eq_true (by omega)
      rw [e]
      simp
      omega
    · rw [if_neg (by omega)]
      have e : decide (s.size ≠ 0) = false := decide_eq_false (by omega)
      rw [e]
      simp
  | d + 1, i, k, h => by
    have hi : i < s.size := by omega
    have ih := refName_l0 s hs d (i + 1) k (by omega)
    rw [show k + (d + 1) + 1 = (k + d + 1) + 1 by omega]
    unfold lunetteref11_Name.l0
    rw [if_pos (by omega), if_pos (by omega), bt_get s i hi, wrap_up i (by omega), ih, range_all]
    obtain ⟨c, hc⟩ : ∃ c, (s.get! i).toNat = c := ⟨_, rfl⟩
    rw [hc]
    cases hq : nameAt i c
    · unfold nameAt isLetter isDigit at hq
      simp only [Bool.or_eq_false_iff, Bool.and_eq_false_iff, decide_eq_false_iff_not] at hq
      simp only [Bool.false_and]
      repeat' split
      all_goals first | rfl | omega
    · unfold nameAt isLetter isDigit at hq
      simp only [Bool.or_eq_true, Bool.and_eq_true, decide_eq_true_eq] at hq
      simp only [Bool.true_and]
      repeat' split
      all_goals first | rfl | omega
theorem refName_f (s : ByteArray) (k : Nat) (hs : s.size < 9223372036854775808) (hk : s.size < k) : lunetteref11_Name.f k s = some (nameOk s) := by
  obtain ⟨m, rfl⟩ : ∃ m, k = m + s.size + 1 := ⟨k - s.size - 1, by omega⟩
  have := refName_l0 s hs s.size 0 m (by omega)
  unfold lunetteref11_Name.f nameOk madeOf allAt
  rw [List.range_eq_range']
  exact this
theorem refID_l0 (s : ByteArray) (hs : s.size < 9223372036854775808) : ∀ (d i k : Nat), i + d = s.size → lunetteref11_ID.l0 (k + d + 1) s (i : Int) = some (((List.range' i d).all fun j => idAt j (s.get! j).toNat) && decide (s.size ≠ 0) && decide (s.size ≤ 16))
  | 0, i, k, h => by
    unfold lunetteref11_ID.l0
    rw [if_neg (by omega)]
    by_cases h1 : 1 ≤ s.size
    · rw [if_pos (by omega)]
      have e : decide (s.size ≠ 0) = true := decide_eq_true (by omega)
      rw [e]
      simp
      omega
    · rw [if_neg (by omega)]
      have e : decide (s.size ≠ 0) = false := decide_eq_false (by omega)
      rw [e]
      simp
  | d + 1, i, k, h => by
    have hi : i < s.size := by omega
    have ih := refID_l0 s hs d (i + 1) k (by omega)
    rw [show k + (d + 1) + 1 = (k + d + 1) + 1 by omega]
    unfold lunetteref11_ID.l0
    rw [if_pos (by omega), if_pos (by omega), bt_get s i hi, wrap_up i (by omega), ih, range_all]
    obtain ⟨c, hc⟩ : ∃ c, (s.get! i).toNat = c := ⟨_, rfl⟩
    rw [hc]
    cases hq : idAt i c
    · unfold idAt isLetter isDigit at hq
      simp only [Bool.or_eq_false_iff, Bool.and_eq_false_iff, decide_eq_false_iff_not] at hq
      simp only [Bool.false_and]
      repeat' split
      all_goals first | rfl | omega
    · unfold idAt isLetter isDigit at hq
      simp only [Bool.or_eq_true, Bool.and_eq_true, decide_eq_true_eq] at hq
      simp only [Bool.true_and]
      repeat' split
      all_goals first | rfl | omega
theorem refID_f (s : ByteArray) (k : Nat) (hs : s.size < 9223372036854775808) (hk : s.size < k) : lunetteref11_ID.f k s = some (idOk s) := by
  obtain ⟨m, rfl⟩ : ∃ m, k = m + s.size + 1 := ⟨k - s.size - 1, by omega⟩
  have := refID_l0 s hs s.size 0 m (by omega)
  unfold lunetteref11_ID.f idOk madeOf allAt
  rw [List.range_eq_range']
  exact this
theorem refUser_f (a b c : ByteArray) (k : Nat) (hk : 9223372036854775808 ≤ k) (ha : a.size < 9223372036854775808) (hb : b.size < 9223372036854775808) (hc : c.size < 9223372036854775808) : lunetteref11_User.f k a b c = some (userOk a b c) := by
  unfold lunetteref11_User.f userOk
  rw [refName_f a k (by omega) (by omega), refID_f b k (by omega) (by omega), refName_f c k (by omega) (by omega)]
  simp only [Option.bind_some]
  cases nameOk a
  · rfl
  · cases idOk b
    · rfl
    · by_cases h : c.toList = []
      · rw [if_pos rfl, if_pos rfl, if_pos h, h]; rfl
      · rw [if_pos rfl, if_pos rfl, if_neg h, beq_eq_false_iff_ne.2 h]; rfl
/-- a tuple's parts are short -/
def S51.short (t : S51) : Prop := t.f0.size < 9223372036854775808 ∧ t.f1.size < 9223372036854775808 ∧ t.f2.size < 9223372036854775808 ∧ t.f3.f0.size < 9223372036854775808 ∧ t.f3.f1.size < 9223372036854775808 ∧ t.f3.f2.size < 9223372036854775808
theorem refTuple_f (t : S51) (k : Nat) (hk : 9223372036854775808 ≤ k) (h : t.short) : lunetteref11_Check.f k t.f0 t.f1 t.f2 t.f3.f0 t.f3.f1 t.f3.f2 = some (!t.bad) := by
  obtain ⟨h0, h1, h2, h3, h4, h5⟩ := h
  unfold lunetteref11_Check.f S51.bad tupleOk
  rw [refName_f _ k (by omega) (by omega), refID_f _ k (by omega) (by omega), refName_f _ k (by omega) (by omega), refUser_f _ _ _ k hk h3 h4 h5]
  simp only [Option.bind_some]
  cases nameOk t.f0
  · rfl
  · cases idOk t.f1
    · rfl
    · cases nameOk t.f2
      · rfl
      · simp

/-! ### the words -/
/-- how many numbers a word has, from and to how many tuples: the reference's -/
def numL (l : List UInt8) : Int := if l = ([99, 104, 101, 99, 107] : List UInt8) then 2 else if l = ([101, 120, 112, 97, 110, 100] : List UInt8) then 2 else if l = ([115, 117, 98, 106, 101, 99, 116, 115] : List UInt8) then 2 else if l = ([111, 98, 106, 101, 99, 116, 115] : List UInt8) then 2 else if l = ([114, 101, 97, 100] : List UInt8) then 2 else if l = ([108, 111, 103] : List UInt8) then 2 else if l = ([112, 105, 110] : List UInt8) then 1 else if l = ([117, 110, 112, 105, 110] : List UInt8) then 1 else if l = ([102, 117, 115, 101] : List UInt8) then 1 else if l = ([115, 112, 111, 105, 108] : List UInt8) then 3 else if l = ([99, 114, 97, 115, 104] : List UInt8) then 9 else if l = ([117, 112, 100, 97, 116, 101] : List UInt8) then 0 else if l = ([110, 111, 119] : List UInt8) then 0 else if l = ([115, 99, 114, 117, 98] : List UInt8) then 0 else if l = ([111, 112, 101, 110] : List UInt8) then 0 else if l = ([114, 117, 108, 101, 115] : List UInt8) then 0 else -1
def tupL (l : List UInt8) : Int × Int := if l = ([99, 104, 101, 99, 107] : List UInt8) then (1, 1) else if l = ([101, 120, 112, 97, 110, 100] : List UInt8) then (1, 1) else if l = ([115, 117, 98, 106, 101, 99, 116, 115] : List UInt8) then (1, 1) else if l = ([111, 98, 106, 101, 99, 116, 115] : List UInt8) then (1, 1) else if l = ([114, 101, 97, 100] : List UInt8) then (0, 1) else if l = ([117, 112, 100, 97, 116, 101] : List UInt8) then (0, 8) else (0, 0)
/-- what the two tables say of a word that there is -/
structure Known (word : ByteArray) : Prop where
  is : findB word = true
  num : numL word.toList = if (findE word).pairs then 9 else (findE word).n
  tup : tupL word.toList = ((findE word).lo, (findE word).hi)
  signs : (findE word).signs = decide (word.toList = ([117, 112, 100, 97, 116, 101] : List UInt8))
  text : (findE word).text = decide (word.toList = ([114, 117, 108, 101, 115] : List UInt8))
  bytes : (findE word).bytes = decide (word.toList = ([115, 112, 111, 105, 108] : List UInt8))
  range : 0 ≤ (findE word).n ∧ (findE word).n ≤ 3 ∧ ((findE word).bytes = true → (findE word).n = 3 ∧ (findE word).pairs = false ∧ (findE word).signs = false)
set_option maxRecDepth 100000 in
theorem tab0 : Known ⟨#[117, 112, 100, 97, 116, 101]⟩ := by
  have e1 : findB ⟨#[117, 112, 100, 97, 116, 101]⟩ = true := by kernel_rfl
  have e2 : findE ⟨#[117, 112, 100, 97, 116, 101]⟩ = ⟨⟨#[117, 112, 100, 97, 116, 101]⟩, 0, 0, 8, true, false, false, false⟩ := by kernel_rfl
  have e3 : (⟨#[117, 112, 100, 97, 116, 101]⟩ : ByteArray).toList = [117, 112, 100, 97, 116, 101] := by rw [ByteArray.toList_eq]
  refine ⟨e1, ?_, ?_, ?_, ?_, ?_, ?_⟩ <;> rw [e2] <;> (try rw [e3]) <;> first | rfl | decide
set_option maxRecDepth 100000 in
theorem tab1 : Known ⟨#[99, 104, 101, 99, 107]⟩ := by
  have e1 : findB ⟨#[99, 104, 101, 99, 107]⟩ = true := by kernel_rfl
  have e2 : findE ⟨#[99, 104, 101, 99, 107]⟩ = ⟨⟨#[99, 104, 101, 99, 107]⟩, 2, 1, 1, false, false, false, false⟩ := by kernel_rfl
  have e3 : (⟨#[99, 104, 101, 99, 107]⟩ : ByteArray).toList = [99, 104, 101, 99, 107] := by rw [ByteArray.toList_eq]
  refine ⟨e1, ?_, ?_, ?_, ?_, ?_, ?_⟩ <;> rw [e2] <;> (try rw [e3]) <;> first | rfl | decide
set_option maxRecDepth 100000 in
theorem tab2 : Known ⟨#[101, 120, 112, 97, 110, 100]⟩ := by
  have e1 : findB ⟨#[101, 120, 112, 97, 110, 100]⟩ = true := by kernel_rfl
  have e2 : findE ⟨#[101, 120, 112, 97, 110, 100]⟩ = ⟨⟨#[101, 120, 112, 97, 110, 100]⟩, 2, 1, 1, false, false, false, false⟩ := by kernel_rfl
  have e3 : (⟨#[101, 120, 112, 97, 110, 100]⟩ : ByteArray).toList = [101, 120, 112, 97, 110, 100] := by rw [ByteArray.toList_eq]
  refine ⟨e1, ?_, ?_, ?_, ?_, ?_, ?_⟩ <;> rw [e2] <;> (try rw [e3]) <;> first | rfl | decide
set_option maxRecDepth 100000 in
theorem tab3 : Known ⟨#[115, 117, 98, 106, 101, 99, 116, 115]⟩ := by
  have e1 : findB ⟨#[115, 117, 98, 106, 101, 99, 116, 115]⟩ = true := by kernel_rfl
  have e2 : findE ⟨#[115, 117, 98, 106, 101, 99, 116, 115]⟩ = ⟨⟨#[115, 117, 98, 106, 101, 99, 116, 115]⟩, 2, 1, 1, false, false, false, false⟩ := by kernel_rfl
  have e3 : (⟨#[115, 117, 98, 106, 101, 99, 116, 115]⟩ : ByteArray).toList = [115, 117, 98, 106, 101, 99, 116, 115] := by rw [ByteArray.toList_eq]
  refine ⟨e1, ?_, ?_, ?_, ?_, ?_, ?_⟩ <;> rw [e2] <;> (try rw [e3]) <;> first | rfl | decide
set_option maxRecDepth 100000 in
theorem tab4 : Known ⟨#[111, 98, 106, 101, 99, 116, 115]⟩ := by
  have e1 : findB ⟨#[111, 98, 106, 101, 99, 116, 115]⟩ = true := by kernel_rfl
  have e2 : findE ⟨#[111, 98, 106, 101, 99, 116, 115]⟩ = ⟨⟨#[111, 98, 106, 101, 99, 116, 115]⟩, 2, 1, 1, false, false, false, false⟩ := by kernel_rfl
  have e3 : (⟨#[111, 98, 106, 101, 99, 116, 115]⟩ : ByteArray).toList = [111, 98, 106, 101, 99, 116, 115] := by rw [ByteArray.toList_eq]
  refine ⟨e1, ?_, ?_, ?_, ?_, ?_, ?_⟩ <;> rw [e2] <;> (try rw [e3]) <;> first | rfl | decide
set_option maxRecDepth 100000 in
theorem tab5 : Known ⟨#[114, 101, 97, 100]⟩ := by
  have e1 : findB ⟨#[114, 101, 97, 100]⟩ = true := by kernel_rfl
  have e2 : findE ⟨#[114, 101, 97, 100]⟩ = ⟨⟨#[114, 101, 97, 100]⟩, 2, 0, 1, false, false, false, false⟩ := by kernel_rfl
  have e3 : (⟨#[114, 101, 97, 100]⟩ : ByteArray).toList = [114, 101, 97, 100] := by rw [ByteArray.toList_eq]
  refine ⟨e1, ?_, ?_, ?_, ?_, ?_, ?_⟩ <;> rw [e2] <;> (try rw [e3]) <;> first | rfl | decide
set_option maxRecDepth 100000 in
theorem tab6 : Known ⟨#[108, 111, 103]⟩ := by
  have e1 : findB ⟨#[108, 111, 103]⟩ = true := by kernel_rfl
  have e2 : findE ⟨#[108, 111, 103]⟩ = ⟨⟨#[108, 111, 103]⟩, 2, 0, 0, false, false, false, false⟩ := by kernel_rfl
  have e3 : (⟨#[108, 111, 103]⟩ : ByteArray).toList = [108, 111, 103] := by rw [ByteArray.toList_eq]
  refine ⟨e1, ?_, ?_, ?_, ?_, ?_, ?_⟩ <;> rw [e2] <;> (try rw [e3]) <;> first | rfl | decide
set_option maxRecDepth 100000 in
theorem tab7 : Known ⟨#[112, 105, 110]⟩ := by
  have e1 : findB ⟨#[112, 105, 110]⟩ = true := by kernel_rfl
  have e2 : findE ⟨#[112, 105, 110]⟩ = ⟨⟨#[112, 105, 110]⟩, 1, 0, 0, false, false, false, false⟩ := by kernel_rfl
  have e3 : (⟨#[112, 105, 110]⟩ : ByteArray).toList = [112, 105, 110] := by rw [ByteArray.toList_eq]
  refine ⟨e1, ?_, ?_, ?_, ?_, ?_, ?_⟩ <;> rw [e2] <;> (try rw [e3]) <;> first | rfl | decide
set_option maxRecDepth 100000 in
theorem tab8 : Known ⟨#[117, 110, 112, 105, 110]⟩ := by
  have e1 : findB ⟨#[117, 110, 112, 105, 110]⟩ = true := by kernel_rfl
  have e2 : findE ⟨#[117, 110, 112, 105, 110]⟩ = ⟨⟨#[117, 110, 112, 105, 110]⟩, 1, 0, 0, false, false, false, false⟩ := by kernel_rfl
  have e3 : (⟨#[117, 110, 112, 105, 110]⟩ : ByteArray).toList = [117, 110, 112, 105, 110] := by rw [ByteArray.toList_eq]
  refine ⟨e1, ?_, ?_, ?_, ?_, ?_, ?_⟩ <;> rw [e2] <;> (try rw [e3]) <;> first | rfl | decide
set_option maxRecDepth 100000 in
theorem tab9 : Known ⟨#[110, 111, 119]⟩ := by
  have e1 : findB ⟨#[110, 111, 119]⟩ = true := by kernel_rfl
  have e2 : findE ⟨#[110, 111, 119]⟩ = ⟨⟨#[110, 111, 119]⟩, 0, 0, 0, false, false, false, false⟩ := by kernel_rfl
  have e3 : (⟨#[110, 111, 119]⟩ : ByteArray).toList = [110, 111, 119] := by rw [ByteArray.toList_eq]
  refine ⟨e1, ?_, ?_, ?_, ?_, ?_, ?_⟩ <;> rw [e2] <;> (try rw [e3]) <;> first | rfl | decide
set_option maxRecDepth 100000 in
theorem tab10 : Known ⟨#[115, 99, 114, 117, 98]⟩ := by
  have e1 : findB ⟨#[115, 99, 114, 117, 98]⟩ = true := by kernel_rfl
  have e2 : findE ⟨#[115, 99, 114, 117, 98]⟩ = ⟨⟨#[115, 99, 114, 117, 98]⟩, 0, 0, 0, false, false, false, false⟩ := by kernel_rfl
  have e3 : (⟨#[115, 99, 114, 117, 98]⟩ : ByteArray).toList = [115, 99, 114, 117, 98] := by rw [ByteArray.toList_eq]
  refine ⟨e1, ?_, ?_, ?_, ?_, ?_, ?_⟩ <;> rw [e2] <;> (try rw [e3]) <;> first | rfl | decide
set_option maxRecDepth 100000 in
theorem tab11 : Known ⟨#[111, 112, 101, 110]⟩ := by
  have e1 : findB ⟨#[111, 112, 101, 110]⟩ = true := by kernel_rfl
  have e2 : findE ⟨#[111, 112, 101, 110]⟩ = ⟨⟨#[111, 112, 101, 110]⟩, 0, 0, 0, false, false, false, false⟩ := by kernel_rfl
  have e3 : (⟨#[111, 112, 101, 110]⟩ : ByteArray).toList = [111, 112, 101, 110] := by rw [ByteArray.toList_eq]
  refine ⟨e1, ?_, ?_, ?_, ?_, ?_, ?_⟩ <;> rw [e2] <;> (try rw [e3]) <;> first | rfl | decide
set_option maxRecDepth 100000 in
theorem tab12 : Known ⟨#[102, 117, 115, 101]⟩ := by
  have e1 : findB ⟨#[102, 117, 115, 101]⟩ = true := by kernel_rfl
  have e2 : findE ⟨#[102, 117, 115, 101]⟩ = ⟨⟨#[102, 117, 115, 101]⟩, 1, 0, 0, false, false, false, false⟩ := by kernel_rfl
  have e3 : (⟨#[102, 117, 115, 101]⟩ : ByteArray).toList = [102, 117, 115, 101] := by rw [ByteArray.toList_eq]
  refine ⟨e1, ?_, ?_, ?_, ?_, ?_, ?_⟩ <;> rw [e2] <;> (try rw [e3]) <;> first | rfl | decide
set_option maxRecDepth 100000 in
theorem tab13 : Known ⟨#[99, 114, 97, 115, 104]⟩ := by
  have e1 : findB ⟨#[99, 114, 97, 115, 104]⟩ = true := by kernel_rfl
  have e2 : findE ⟨#[99, 114, 97, 115, 104]⟩ = ⟨⟨#[99, 114, 97, 115, 104]⟩, 0, 0, 0, false, false, true, false⟩ := by kernel_rfl
  have e3 : (⟨#[99, 114, 97, 115, 104]⟩ : ByteArray).toList = [99, 114, 97, 115, 104] := by rw [ByteArray.toList_eq]
  refine ⟨e1, ?_, ?_, ?_, ?_, ?_, ?_⟩ <;> rw [e2] <;> (try rw [e3]) <;> first | rfl | decide
set_option maxRecDepth 100000 in
theorem tab14 : Known ⟨#[115, 112, 111, 105, 108]⟩ := by
  have e1 : findB ⟨#[115, 112, 111, 105, 108]⟩ = true := by kernel_rfl
  have e2 : findE ⟨#[115, 112, 111, 105, 108]⟩ = ⟨⟨#[115, 112, 111, 105, 108]⟩, 3, 0, 0, false, false, false, true⟩ := by kernel_rfl
  have e3 : (⟨#[115, 112, 111, 105, 108]⟩ : ByteArray).toList = [115, 112, 111, 105, 108] := by rw [ByteArray.toList_eq]
  refine ⟨e1, ?_, ?_, ?_, ?_, ?_, ?_⟩ <;> rw [e2] <;> (try rw [e3]) <;> first | rfl | decide
set_option maxRecDepth 100000 in
theorem tab15 : Known ⟨#[114, 117, 108, 101, 115]⟩ := by
  have e1 : findB ⟨#[114, 117, 108, 101, 115]⟩ = true := by kernel_rfl
  have e2 : findE ⟨#[114, 117, 108, 101, 115]⟩ = ⟨⟨#[114, 117, 108, 101, 115]⟩, 0, 0, 0, false, true, false, false⟩ := by kernel_rfl
  have e3 : (⟨#[114, 117, 108, 101, 115]⟩ : ByteArray).toList = [114, 117, 108, 101, 115] := by rw [ByteArray.toList_eq]
  refine ⟨e1, ?_, ?_, ?_, ?_, ?_, ?_⟩ <;> rw [e2] <;> (try rw [e3]) <;> first | rfl | decide
theorem word_cases (word : ByteArray) : (findB word = false ∧ numL word.toList = -1) ∨ Known word := by
  by_cases h1 : word.toList = ([115, 112, 111, 105, 108] : List UInt8)
  · have e : word = ⟨#[115, 112, 111, 105, 108]⟩ := ba_ext (by rw [← ByteArray.toList_eq, h1])
    rw [e]
    exact .inr tab14
  · by_cases h2 : word.toList = ([114, 117, 108, 101, 115] : List UInt8)
    · have e : word = ⟨#[114, 117, 108, 101, 115]⟩ := ba_ext (by rw [← ByteArray.toList_eq, h2])
      rw [e]
      exact .inr tab15
    · by_cases h3 : 0 ≤ idxE word 14 0
      · have hr := idxE_range word 14 0
        have hj : (idxE word 14 0).toNat < 14 := by omega
        have e : word = (entAt (idxE word 14 0).toNat).word := ba_ext (by rw [← ByteArray.toList_eq, ← ByteArray.toList_eq]; exact (idxE_hit word 14 0 h3).symm)
        generalize hi : (⟨(idxE word 14 0).toNat, hj⟩ : Fin 14) = i
        have e2 : word = (entAt i.val).word := by rw [← hi]; exact e
        clear hi e
        rw [e2]
        match i with
        | ⟨0, _⟩ => exact .inr tab0
        | ⟨1, _⟩ => exact .inr tab1
        | ⟨2, _⟩ => exact .inr tab2
        | ⟨3, _⟩ => exact .inr tab3
        | ⟨4, _⟩ => exact .inr tab4
        | ⟨5, _⟩ => exact .inr tab5
        | ⟨6, _⟩ => exact .inr tab6
        | ⟨7, _⟩ => exact .inr tab7
        | ⟨8, _⟩ => exact .inr tab8
        | ⟨9, _⟩ => exact .inr tab9
        | ⟨10, _⟩ => exact .inr tab10
        | ⟨11, _⟩ => exact .inr tab11
        | ⟨12, _⟩ => exact .inr tab12
        | ⟨13, _⟩ => exact .inr tab13
      · left
        have hmiss : ∀ (k i : Nat), idxE word k i < 0 → ∀ j, i ≤ j → j < i + k → word.toList ≠ (entAt j).word.toList := by
          intro k
          induction k with
          | zero => intro i _ j h1 h2; omega
          | succ k ih =>
            intro i h j hj1 hj2
            rw [idxE_step] at h
            split at h
            · omega
            · rename_i hne
              by_cases hji : j = i
              · subst hji
                intro e
                exact hne (beq_iff_eq.2 e.symm)
              · exact ih (i + 1) h j (by omega) (by omega)
        have h0 : ∀ i : Fin 14, word.toList ≠ (entAt i.val).word.toList := fun i => hmiss 14 0 (by omega) i.val (by omega) (by omega)
        have g0 : word.toList ≠ ([117, 112, 100, 97, 116, 101] : List UInt8) := fun e => h0 0 (e.trans (by rw [ByteArray.toList_eq]; rfl)); have g1 : word.toList ≠ ([99, 104, 101, 99, 107] : List UInt8) := fun e => h0 1 (e.trans (by rw [ByteArray.toList_eq]; rfl)); have g2 : word.toList ≠ ([101, 120, 112, 97, 110, 100] : List UInt8) := fun e => h0 2 (e.trans (by rw [ByteArray.toList_eq]; rfl)); have g3 : word.toList ≠ ([115, 117, 98, 106, 101, 99, 116, 115] : List UInt8) := fun e => h0 3 (e.trans (by rw [ByteArray.toList_eq]; rfl)); have g4 : word.toList ≠ ([111, 98, 106, 101, 99, 116, 115] : List UInt8) := fun e => h0 4 (e.trans (by rw [ByteArray.toList_eq]; rfl)); have g5 : word.toList ≠ ([114, 101, 97, 100] : List UInt8) := fun e => h0 5 (e.trans (by rw [ByteArray.toList_eq]; rfl)); have g6 : word.toList ≠ ([108, 111, 103] : List UInt8) := fun e => h0 6 (e.trans (by rw [ByteArray.toList_eq]; rfl)); have g7 : word.toList ≠ ([112, 105, 110] : List UInt8) := fun e => h0 7 (e.trans (by rw [ByteArray.toList_eq]; rfl)); have g8 : word.toList ≠ ([117, 110, 112, 105, 110] : List UInt8) := fun e => h0 8 (e.trans (by rw [ByteArray.toList_eq]; rfl)); have g9 : word.toList ≠ ([110, 111, 119] : List UInt8) := fun e => h0 9 (e.trans (by rw [ByteArray.toList_eq]; rfl)); have g10 : word.toList ≠ ([115, 99, 114, 117, 98] : List UInt8) := fun e => h0 10 (e.trans (by rw [ByteArray.toList_eq]; rfl)); have g11 : word.toList ≠ ([111, 112, 101, 110] : List UInt8) := fun e => h0 11 (e.trans (by rw [ByteArray.toList_eq]; rfl)); have g12 : word.toList ≠ ([102, 117, 115, 101] : List UInt8) := fun e => h0 12 (e.trans (by rw [ByteArray.toList_eq]; rfl)); have g13 : word.toList ≠ ([99, 114, 97, 115, 104] : List UInt8) := fun e => h0 13 (e.trans (by rw [ByteArray.toList_eq]; rfl));
        refine ⟨?_, ?_⟩
        · unfold findB
          rw [beq_eq_false_iff_ne.2 h1, beq_eq_false_iff_ne.2 h2, decide_eq_false h3]
          rfl
        · unfold numL
          rw [if_neg g1, if_neg g2, if_neg g3, if_neg g4, if_neg g5, if_neg g6, if_neg g7, if_neg g8, if_neg g12, if_neg h1, if_neg g13, if_neg g0, if_neg g9, if_neg g10, if_neg g11, if_neg h2]
theorem refNum_f (word : ByteArray) (k : Nat) : lunetteref20_numbers.f (k + 2) word = some (numL word.toList) := by
  by_cases h0 : word.toList = ([99, 104, 101, 99, 107] : List UInt8)
  · simp [lunetteref20_numbers.f, lunetteref20_numbers.j0, lunetteref20_numbers.j1, numL, h0]
  · by_cases h1 : word.toList = ([101, 120, 112, 97, 110, 100] : List UInt8)
    · simp [lunetteref20_numbers.f, lunetteref20_numbers.j0, lunetteref20_numbers.j1, numL, h1]
    · by_cases h2 : word.toList = ([115, 117, 98, 106, 101, 99, 116, 115] : List UInt8)
      · simp [lunetteref20_numbers.f, lunetteref20_numbers.j0, lunetteref20_numbers.j1, numL, h2]
      · by_cases h3 : word.toList = ([111, 98, 106, 101, 99, 116, 115] : List UInt8)
        · simp [lunetteref20_numbers.f, lunetteref20_numbers.j0, lunetteref20_numbers.j1, numL, h3]
        · by_cases h4 : word.toList = ([114, 101, 97, 100] : List UInt8)
          · simp [lunetteref20_numbers.f, lunetteref20_numbers.j0, lunetteref20_numbers.j1, numL, h4]
          · by_cases h5 : word.toList = ([108, 111, 103] : List UInt8)
            · simp [lunetteref20_numbers.f, lunetteref20_numbers.j0, lunetteref20_numbers.j1, numL, h5]
            · by_cases h6 : word.toList = ([112, 105, 110] : List UInt8)
              · simp [lunetteref20_numbers.f, lunetteref20_numbers.j0, lunetteref20_numbers.j1, numL, h6]
              · by_cases h7 : word.toList = ([117, 110, 112, 105, 110] : List UInt8)
                · simp [lunetteref20_numbers.f, lunetteref20_numbers.j0, lunetteref20_numbers.j1, numL, h7]
                · by_cases h8 : word.toList = ([102, 117, 115, 101] : List UInt8)
                  · simp [lunetteref20_numbers.f, lunetteref20_numbers.j0, lunetteref20_numbers.j1, numL, h8]
                  · by_cases h9 : word.toList = ([115, 112, 111, 105, 108] : List UInt8)
                    · simp [lunetteref20_numbers.f, lunetteref20_numbers.j0, lunetteref20_numbers.j1, numL, h9]
                    · by_cases h10 : word.toList = ([99, 114, 97, 115, 104] : List UInt8)
                      · simp [lunetteref20_numbers.f, lunetteref20_numbers.j0, lunetteref20_numbers.j1, numL, h10]
                      · by_cases h11 : word.toList = ([117, 112, 100, 97, 116, 101] : List UInt8)
                        · simp [lunetteref20_numbers.f, lunetteref20_numbers.j0, lunetteref20_numbers.j1, numL, h11]
                        · by_cases h12 : word.toList = ([110, 111, 119] : List UInt8)
                          · simp [lunetteref20_numbers.f, lunetteref20_numbers.j0, lunetteref20_numbers.j1, numL, h12]
                          · by_cases h13 : word.toList = ([115, 99, 114, 117, 98] : List UInt8)
                            · simp [lunetteref20_numbers.f, lunetteref20_numbers.j0, lunetteref20_numbers.j1, numL, h13]
                            · by_cases h14 : word.toList = ([111, 112, 101, 110] : List UInt8)
                              · simp [lunetteref20_numbers.f, lunetteref20_numbers.j0, lunetteref20_numbers.j1, numL, h14]
                              · by_cases h15 : word.toList = ([114, 117, 108, 101, 115] : List UInt8)
                                · simp [lunetteref20_numbers.f, lunetteref20_numbers.j0, lunetteref20_numbers.j1, numL, h15]
                                · simp [lunetteref20_numbers.f, lunetteref20_numbers.j0, lunetteref20_numbers.j1, numL, h0, h1, h2, h3, h4, h5, h6, h7, h8, h9, h10, h11, h12, h13, h14, h15]
theorem refTup_f (word : ByteArray) (k : Nat) : lunetteref20_tuples.f (k + 1) word = some (tupL word.toList) := by
  by_cases h0 : word.toList = ([99, 104, 101, 99, 107] : List UInt8)
  · simp [lunetteref20_tuples.f, lunetteref20_tuples.j0, tupL, h0]
  · by_cases h1 : word.toList = ([101, 120, 112, 97, 110, 100] : List UInt8)
    · simp [lunetteref20_tuples.f, lunetteref20_tuples.j0, tupL, h1]
    · by_cases h2 : word.toList = ([115, 117, 98, 106, 101, 99, 116, 115] : List UInt8)
      · simp [lunetteref20_tuples.f, lunetteref20_tuples.j0, tupL, h2]
      · by_cases h3 : word.toList = ([111, 98, 106, 101, 99, 116, 115] : List UInt8)
        · simp [lunetteref20_tuples.f, lunetteref20_tuples.j0, tupL, h3]
        · by_cases h4 : word.toList = ([114, 101, 97, 100] : List UInt8)
          · simp [lunetteref20_tuples.f, lunetteref20_tuples.j0, tupL, h4]
          · by_cases h5 : word.toList = ([117, 112, 100, 97, 116, 101] : List UInt8)
            · simp [lunetteref20_tuples.f, lunetteref20_tuples.j0, tupL, h5]
            · simp [lunetteref20_tuples.f, lunetteref20_tuples.j0, tupL, h0, h1, h2, h3, h4, h5]

/-! ### the checks, one behind the other -/
theorem upL {α : Type} (f : Nat → Option α) (hf : ∀ k, LeO (f k) (f (k + 1))) (r : α) : ∀ (m k : Nat), f k = some r → f (k + m) = some r
  | 0, k, h => h
  | m + 1, k, h => hf (k + m) r (upL f hf r m k h)
theorem all_get (s : ByteArray) (p : UInt8 → Bool) : s.data.toList.all p = (List.range' 0 s.size).all fun i => p (s.get! i) := by
  rw [Bool.eq_iff_iff, List.all_eq_true, List.all_eq_true]
  constructor
  · intro h i hi
    have hlt : i < s.size := by have := List.mem_range'_1.1 hi; omega
    rw [get_get s i hlt]
    exact h _ (Array.getElem_mem_toList _)
  · intro h b hb
    obtain ⟨i, hi, rfl⟩ := mem_get hb
    exact h i (List.mem_range'_1.2 (by omega))
def okB (b : UInt8) : Bool := decide (32 ≤ b.toNat) && decide (b.toNat ≤ 126)
def sgB (b : UInt8) : Bool := b == 43 || b == 45
theorem ref_l3 (w : ByteArray) (xs : List Int) (ts : List S51) (sg tx : ByteArray) (hs : tx.size < 9223372036854775808) : ∀ (d j : Nat), j + d = tx.size → ∃ k, lunetteref20_Check.l3 k (j : Int) w xs ts sg tx = some (((List.range' j d).all fun i => okB (tx.get! i)) && (decide (2 ≤ tx.size) && decide (tx.size ≤ 100)))
  | 0, j, h => by
    refine ⟨1, ?_⟩
    unfold lunetteref20_Check.l3
    rw [if_neg (by omega)]
    by_cases h2 : 2 ≤ tx.size
    · rw [if_pos (by omega)]
      have e : decide ((tx.size : Int) ≤ 100) = decide (tx.size ≤ 100) := by rw [Bool.eq_iff_iff, decide_eq_true_eq, decide_eq_true_eq]; omega
      rw [e, decide_eq_true h2]
      rfl
    · rw [if_neg (by omega), decide_eq_false h2]
      rfl
  | d + 1, j, h => by
    have hj : j < tx.size := by omega
    obtain ⟨k, hk⟩ := ref_l3 w xs ts sg tx hs d (j + 1) (by omega)
    refine ⟨k + 1, ?_⟩
    unfold lunetteref20_Check.l3
    rw [if_pos (by omega), if_pos (by omega), bt_get tx j hj, wrap_up j (by omega), hk, range_all]
    unfold okB
    by_cases h1 : (tx.get! j).toNat < 32
    · rw [if_pos (by omega), decide_eq_false (p := 32 ≤ (tx.get! j).toNat) (by omega)]
      rfl
    · by_cases h2 : 126 < (tx.get! j).toNat
      · rw [if_neg (by omega), if_pos (by omega), decide_eq_false (p := (tx.get! j).toNat ≤ 126) (by omega), Bool.and_false]
        rfl
      · rw [if_neg (by omega), if_neg (by omega), decide_eq_true (p := 32 ≤ (tx.get! j).toNat) (by omega), decide_eq_true (p := (tx.get! j).toNat ≤ 126) (by omega)]
        rfl
/-- the text and the third number -/
def val5 (w : ByteArray) (xs : List Int) (tx : ByteArray) : Bool := if w.toList = ([114, 117, 108, 101, 115] : List UInt8) then textOk tx && (decide (2 ≤ tx.size) && decide (tx.size ≤ 100)) else (tx.toList == ([] : List UInt8)) && (!(w.toList == ([115, 112, 111, 105, 108] : List UInt8)) || decide (rd xs 2 ≤ 255))
theorem ref_j5 (w : ByteArray) (xs : List Int) (ts : List S51) (sg tx : ByteArray) (hs : tx.size < 9223372036854775808) (hx : w.toList = ([115, 112, 111, 105, 108] : List UInt8) → 2 < xs.length) : ∃ k, lunetteref20_Check.j5 k w xs ts sg tx = some (val5 w xs tx) := by
  obtain ⟨k, hk⟩ := ref_l3 w xs ts sg tx hs tx.size 0 (by omega)
  refine ⟨k + 1, ?_⟩
  rw [lunetteref20_Check.j5]
  unfold val5
  by_cases h1 : w.toList = ([114, 117, 108, 101, 115] : List UInt8)
  · rw [if_pos h1, if_pos h1]
    have e : textOk tx = (List.range' 0 tx.size).all fun i => okB (tx.get! i) := all_get tx okB
    rw [e]
    exact hk
  · rw [if_neg h1, if_neg h1]
    by_cases h2 : tx.toList = ([] : List UInt8)
    · rw [if_pos h2, beq_iff_eq.2 h2]
      by_cases h3 : w.toList = ([115, 112, 111, 105, 108] : List UInt8)
      · rw [if_pos h3, if_pos (by have := hx h3; omega), beq_iff_eq.2 h3]
        rfl
      · rw [if_neg h3, beq_eq_false_iff_ne.2 h3]
        rfl
    · rw [if_neg h2, beq_eq_false_iff_ne.2 h2]
      rfl
theorem ref_l2 (w : ByteArray) (xs : List Int) (ts : List S51) (sg tx : ByteArray) (v : Bool) (h5 : ∃ k, lunetteref20_Check.j5 k w xs ts sg tx = some v) (hs : sg.size < 9223372036854775808) : ∀ (d j : Nat), j + d = sg.size → ∃ k, lunetteref20_Check.l2 k (j : Int) w xs ts sg tx = some (((List.range' j d).all fun i => sgB (sg.get! i)) && v)
  | 0, j, h => by
    obtain ⟨k, hk⟩ := h5
    refine ⟨k + 1, ?_⟩
    unfold lunetteref20_Check.l2
    rw [if_neg (by omega)]
    exact hk
  | d + 1, j, h => by
    have hj : j < sg.size := by omega
    obtain ⟨k, hk⟩ := ref_l2 w xs ts sg tx v h5 hs d (j + 1) (by omega)
    refine ⟨k + 1, ?_⟩
    unfold lunetteref20_Check.l2
    rw [if_pos (by omega), if_pos (by omega), bt_get sg j hj, wrap_up j (by omega), hk, range_all]
    have e43 : (sg.get! j = 43) ↔ (sg.get! j).toNat = 43 := ⟨fun h => by rw [h]; rfl, fun h => UInt8.toNat_inj.1 h⟩
    have e45 : (sg.get! j = 45) ↔ (sg.get! j).toNat = 45 := ⟨fun h => by rw [h]; rfl, fun h => UInt8.toNat_inj.1 h⟩
    unfold sgB
    by_cases h1 : (sg.get! j).toNat = 43
    · rw [if_pos (by omega), beq_iff_eq.2 (e43.2 h1)]
      rfl
    · rw [if_neg (by omega), beq_eq_false_iff_ne.2 (fun h => h1 (e43.1 h))]
      by_cases h2 : (sg.get! j).toNat = 45
      · rw [if_pos (by omega), beq_iff_eq.2 (e45.2 h2)]
        rfl
      · rw [if_neg (by omega), beq_eq_false_iff_ne.2 (fun h => h2 (e45.1 h))]
        rfl
/-- the signs, and what is behind them -/
def valS (w : ByteArray) (n : Nat) (sg : ByteArray) : Bool := if w.toList = ([117, 112, 100, 97, 116, 101] : List UInt8) then decide (sg.size = n) && sg.data.toList.all sgB else sg.toList == ([] : List UInt8)
theorem ref_l1 (w : ByteArray) (xs : List Int) (ts : List S51) (sg tx : ByteArray) (v : Bool) (h5 : ∃ k, lunetteref20_Check.j5 k w xs ts sg tx = some v) (hs : sg.size < 9223372036854775808) (ht : ts.length < 9223372036854775808) (hsh : ∀ t ∈ ts, t.short) : ∀ (d j : Nat), j + d = ts.length → ∃ k, lunetteref20_Check.l1 k (j : Int) w xs ts sg tx = some (!(ts.drop j).any S51.bad && (valS w ts.length sg && v))
  | 0, j, h => by
    have hd : ts.drop j = [] := List.drop_of_length_le (by omega)
    rw [hd]
    unfold valS
    by_cases h1 : w.toList = ([117, 112, 100, 97, 116, 101] : List UInt8)
    · obtain ⟨k, hk⟩ := ref_l2 w xs ts sg tx v h5 hs sg.size 0 (by omega)
      refine ⟨k + 1, ?_⟩
      unfold lunetteref20_Check.l1
      rw [if_neg (by omega), if_pos h1, if_pos h1, all_get sg sgB]
      by_cases h2 : sg.size = ts.length
      · rw [if_pos (by omega), decide_eq_true h2]
        exact hk
      · rw [if_neg (by omega), decide_eq_false h2]
        rfl
    · obtain ⟨k, hk⟩ := h5
      refine ⟨k + 1, ?_⟩
      unfold lunetteref20_Check.l1
      rw [if_neg (by omega), if_neg h1, if_neg h1]
      by_cases h2 : sg.toList = ([] : List UInt8)
      · rw [if_pos h2, beq_iff_eq.2 h2]
        exact hk
      · rw [if_neg h2, beq_eq_false_iff_ne.2 h2]
        rfl
  | d + 1, j, h => by
    have hj : j < ts.length := by omega
    obtain ⟨M, hM⟩ : ∃ M : Nat, 9223372036854775808 ≤ M := ⟨_, Nat.le_refl _⟩
    obtain ⟨k, hk⟩ := ref_l1 w xs ts sg tx v h5 hs ht hsh d (j + 1) (by omega)
    have hk' := upL (fun k => lunetteref20_Check.l1 k ((j + 1 : Nat) : Int) w xs ts sg tx) (fun k => (lunetteref20_Check.mono_l k).2.2.2.1 _ _ _ _ _ _) _ M k hk
    refine ⟨k + M + 1, ?_⟩
    have hd : ts.drop j = ts[j] :: ts.drop (j + 1) := List.drop_eq_getElem_cons hj
    unfold lunetteref20_Check.l1
    rw [if_pos (by omega), if_pos (by omega), rd_T51_at ts j hj, refTuple_f ts[j] (k + M) (by omega) (hsh _ (List.getElem_mem hj)), wrap_up j (by omega), Option.bind_some, hd, List.any_cons]
    cases ts[j].bad
    · exact hk'
    · rfl
theorem ref_l0 (w : ByteArray) (xs : List Int) (ts : List S51) (sg tx : ByteArray) (v : Bool) (h1 : ∃ k, lunetteref20_Check.l1 k 0 w xs ts sg tx = some v) (hx : xs.length < 9223372036854775808) : ∀ (d j : Nat), j + d = xs.length → ∃ k, lunetteref20_Check.l0 k (j : Int) w xs ts sg tx = some (!(xs.drop j).any numBad && v)
  | 0, j, h => by
    obtain ⟨k, hk⟩ := h1
    refine ⟨k + 1, ?_⟩
    unfold lunetteref20_Check.l0
    rw [if_neg (by omega), List.drop_of_length_le (by omega : xs.length ≤ j)]
    exact hk
  | d + 1, j, h => by
    have hj : j < xs.length := by omega
    obtain ⟨k, hk⟩ := ref_l0 w xs ts sg tx v h1 hx d (j + 1) (by omega)
    refine ⟨k + 1, ?_⟩
    have hd : xs.drop j = xs[j] :: xs.drop (j + 1) := List.drop_eq_getElem_cons hj
    have e : rd xs (j : Int) = xs[j] := by unfold rd; simp [hj]
    unfold lunetteref20_Check.l0
    rw [if_pos (by omega), if_pos (by omega), e, wrap_up j (by omega), hk, hd, List.any_cons]
    unfold numBad
    by_cases c1 : xs[j] < 0
    · rw [if_pos c1, decide_eq_true c1]
      rfl
    · by_cases c2 : 1000000 < xs[j]
      · rw [if_neg c1, if_pos c2, decide_eq_false c1, decide_eq_true c2]
        rfl
      · rw [if_neg c1, if_neg (by omega), decide_eq_false c1, decide_eq_false c2]
        rfl

/-- a line whose parts are such as can come in -/
def S29.wide (x : S29) : Prop := x.f1.length < 9223372036854775808 ∧ x.f2.length < 9223372036854775808 ∧ x.f3.size < 9223372036854775808 ∧ x.f4.size < 9223372036854775808
/-- THE DOCUMENT's ANSWER OF WHAT LINES HAVE A TEXT IS THE PROGRAM's -/
theorem refCheck_f (x : S29) (hx : x.wide) (ht : ∀ t ∈ x.f2, t.short) : ∃ k, lunetteref20_Check.f k x.f0 x.f1 x.f2 x.f3 x.f4 = some (goodL x) := by
  obtain ⟨b1, b2, b3, b4⟩ := hx
  -- what j0 answers at each number of numbers and each answer on the tuples
  have hj0 : ∀ (t : Int) (bd : Bool) (v : Bool), (bd = true ∨ ∃ k, lunetteref20_Check.j1 k (if t = 9 then (decide ((x.f1.length : Int) % 2 = 1) || decide ((x.f1.length : Int) > 16)) else decide (t < 9) && ((x.f1.length : Int) != t)) x.f0 x.f1 x.f2 x.f3 x.f4 = some v) → ∃ k, lunetteref20_Check.j0 k t bd x.f0 x.f1 x.f2 x.f3 x.f4 = some (!bd && v) := by
    intro t bd v h
    cases bd with
    | true => exact ⟨0 + 1, by rw [lunetteref20_Check.j0]; rfl⟩
    | false =>
      obtain ⟨k, hk⟩ := h.resolve_left (by simp)
      refine ⟨k + 1, ?_⟩
      rw [lunetteref20_Check.j0]
      rw [if_neg (by simp)]
      by_cases h9 : t = 9
      · rw [if_pos h9]
        rw [if_pos h9] at hk
        by_cases c1 : (x.f1.length : Int) % 2 = 1
        · rw [if_pos c1]; rw [decide_eq_true c1] at hk; exact hk
        · rw [if_neg c1]
          rw [decide_eq_false c1] at hk
          by_cases c2 : (x.f1.length : Int) > 16
          · rw [if_pos c2]; rw [decide_eq_true c2] at hk; exact hk
          · rw [if_neg c2, if_neg (by omega)]; rw [decide_eq_false c2] at hk; exact hk
      · rw [if_neg h9]
        rw [if_neg h9] at hk
        by_cases c3 : t < 9
        · rw [if_pos c3]; rw [decide_eq_true c3] at hk; exact hk
        · rw [if_neg c3]; rw [decide_eq_false c3] at hk; exact hk
  have hj1 : ∀ (bd v : Bool), (bd = true ∨ ∃ k, lunetteref20_Check.l0 k 0 x.f0 x.f1 x.f2 x.f3 x.f4 = some v) → ∃ k, lunetteref20_Check.j1 k bd x.f0 x.f1 x.f2 x.f3 x.f4 = some (!bd && v) := by
    intro bd v h
    cases bd with
    | true => exact ⟨0 + 1, by rw [lunetteref20_Check.j1]; rfl⟩
    | false =>
      obtain ⟨k, hk⟩ := h.resolve_left (by simp)
      exact ⟨k + 1, by rw [lunetteref20_Check.j1]; exact hk⟩
  have top : ∀ (bd v : Bool), bd = (decide (numL x.f0.toList < 0) || (decide ((x.f2.length : Int) < (tupL x.f0.toList).1) || decide ((x.f2.length : Int) > (tupL x.f0.toList).2))) → (∃ k, lunetteref20_Check.j0 k (numL x.f0.toList) bd x.f0 x.f1 x.f2 x.f3 x.f4 = some v) → ∃ k, lunetteref20_Check.f k x.f0 x.f1 x.f2 x.f3 x.f4 = some v := by
    intro bd v hbd ⟨k, hk⟩
    have hk' := upL (fun k => lunetteref20_Check.j0 k (numL x.f0.toList) bd x.f0 x.f1 x.f2 x.f3 x.f4) (fun k => (lunetteref20_Check.mono_l k).1 _ _ _ _ _ _ _) _ 2 k hk
    refine ⟨k + 2, ?_⟩
    unfold lunetteref20_Check.f
    rw [refNum_f, refTup_f x.f0 (k + 1), Option.bind_some, Option.bind_some]
    subst hbd
    by_cases c1 : numL x.f0.toList < 0
    · rw [if_pos c1]; rw [decide_eq_true c1] at hk'; exact hk'
    · rw [if_neg c1]
      rw [decide_eq_false c1] at hk'
      by_cases c2 : (x.f2.length : Int) < (tupL x.f0.toList).1
      · rw [if_pos c2]; rw [decide_eq_true c2] at hk'; exact hk'
      · rw [if_neg c2]
        rw [decide_eq_false c2] at hk'
        exact hk'
  rcases word_cases x.f0 with ⟨h1, h2⟩ | K
  · have hg : goodL x = false := by unfold goodL checkE; rw [h1]; rfl
    rw [hg]
    refine top true false ?_ ?_
    · rw [h2]; rfl
    · exact hj0 _ true false (.inl rfl)
  · obtain ⟨bd, hbd⟩ : ∃ b, (decide (numL x.f0.toList < 0) || (decide ((x.f2.length : Int) < (tupL x.f0.toList).1) || decide ((x.f2.length : Int) > (tupL x.f0.toList).2))) = b := ⟨_, rfl⟩
    obtain ⟨nb, hnb⟩ : ∃ b, (if numL x.f0.toList = 9 then (decide ((x.f1.length : Int) % 2 = 1) || decide ((x.f1.length : Int) > 16)) else decide (numL x.f0.toList < 9) && ((x.f1.length : Int) != numL x.f0.toList)) = b := ⟨_, rfl⟩
    obtain ⟨R1, R2, R3⟩ := K.range
    have hnum : numbersOk (findE x.f0) x.f1 = !nb := by
      rw [← hnb, K.num]
      unfold numbersOk
      cases (findE x.f0).pairs
      · simp only [Bool.false_eq_true, if_false]
        rw [if_neg (by omega), decide_eq_true (by omega : (findE x.f0).n < 9), Bool.true_and]
        by_cases c : (x.f1.length : Int) = (findE x.f0).n
        · rw [decide_eq_true c, bne_eq_false_iff_eq.2 c]; rfl
        · rw [decide_eq_false c, bne_iff_ne.2 c]; rfl
      · simp only [if_true]
        by_cases c1 : x.f1.length % 2 = 0
        · rw [decide_eq_true c1, decide_eq_false (by omega : ¬ (x.f1.length : Int) % 2 = 1)]
          by_cases c2 : x.f1.length ≤ 16
          · rw [decide_eq_true c2, decide_eq_false (by omega : ¬ (x.f1.length : Int) > 16)]; rfl
          · rw [decide_eq_false c2, decide_eq_true (by omega : (x.f1.length : Int) > 16)]; rfl
        · rw [decide_eq_false c1, decide_eq_true (by omega : (x.f1.length : Int) % 2 = 1)]; rfl
    have hlohi : (decide ((findE x.f0).lo ≤ x.f2.length) && decide ((x.f2.length : Int) ≤ (findE x.f0).hi)) = !bd := by
      rw [← hbd, K.num, K.tup]
      have c0 : ¬ (if (findE x.f0).pairs then (9 : Int) else (findE x.f0).n) < 0 := by split <;> omega
      rw [decide_eq_false c0, Bool.false_or]
      show _ = !(decide ((x.f2.length : Int) < (findE x.f0).lo) || decide ((x.f2.length : Int) > (findE x.f0).hi))
      by_cases c1 : (findE x.f0).lo ≤ x.f2.length
      · have c3 : ¬ (x.f2.length : Int) < (findE x.f0).lo := by omega
        rw [decide_eq_true c1, decide_eq_false c3]
        by_cases c2 : (x.f2.length : Int) ≤ (findE x.f0).hi
        · have c4 : ¬ (x.f2.length : Int) > (findE x.f0).hi := by omega
          rw [decide_eq_true c2, decide_eq_false c4]; rfl
        · have c4 : (x.f2.length : Int) > (findE x.f0).hi := by omega
          rw [decide_eq_false c2, decide_eq_true c4]; rfl
      · have c3 : (x.f2.length : Int) < (findE x.f0).lo := by omega
        rw [decide_eq_false c1, decide_eq_true c3]; rfl
    have hsig : signsOk (findE x.f0) x.f3 x.f2.length = valS x.f0 x.f2.length x.f3 := by
      unfold signsOk signs0 valS
      rw [K.signs]
      by_cases c : x.f0.toList = ([117, 112, 100, 97, 116, 101] : List UInt8)
      · rw [decide_eq_true c, if_pos rfl, if_pos c, Bool.true_and, Bool.and_comm]
        congr 1
        rw [Bool.eq_iff_iff, Bool.or_eq_true, List.all_eq_true]
        constructor
        · intro h b hb
          rcases h with h | h
          · rw [tl_nil (beq_iff_eq.1 h)] at hb; simp at hb
          · have := trim_mem (beq_iff_eq.1 h) b hb
            unfold sgB
            simpa using this
        · intro h
          right
          rw [beq_iff_eq]
          have hall : ∀ b ∈ x.f3.data.toList, ([43, 45] : List UInt8).contains b = true := fun b hb => by
            have := h b hb
            unfold sgB at this
            simpa using this
          unfold Lib.trimS Lib.trimRightS Lib.trimLeftS
          have e : x.f3.data.toList.reverse.dropWhile (([43, 45] : List UInt8).contains ·) = [] := by
            have gen : ∀ l : List UInt8, (∀ b ∈ l, ([43, 45] : List UInt8).contains b = true) → l.dropWhile (([43, 45] : List UInt8).contains ·) = [] := by
              intro l
              induction l with
              | nil => intro _; rfl
              | cons a l ih =>
                intro hh
                rw [List.dropWhile_cons, if_pos (hh a (List.mem_cons_self ..))]
                exact ih (fun b hb => hh b (List.mem_cons_of_mem _ hb))
            exact gen _ (fun b hb => hall b (List.mem_reverse.1 hb))
          rw [e]
          rfl
      · rw [decide_eq_false c, if_neg (by simp), if_neg c, Bool.false_and, Bool.or_false]
    have htx : (textOkE (findE x.f0) x.f4 && (!(findE x.f0).bytes || decide (rd x.f1 2 ≤ 255))) = val5 x.f0 x.f1 x.f4 := by
      unfold textOkE val5
      rw [K.text, K.bytes]
      by_cases c : x.f0.toList = ([114, 117, 108, 101, 115] : List UInt8)
      · rw [decide_eq_true c, if_pos rfl, if_pos c, decide_eq_false (by rw [c]; decide : ¬ x.f0.toList = ([115, 112, 111, 105, 108] : List UInt8))]
        simp only [Bool.not_false, Bool.true_or, Bool.and_true]
        cases textOk x.f4 <;> cases decide (2 ≤ x.f4.size) <;> cases decide (x.f4.size ≤ 100) <;> rfl
      · have e : decide (x.f0.toList = ([115, 112, 111, 105, 108] : List UInt8)) = (x.f0.toList == ([115, 112, 111, 105, 108] : List UInt8)) := by rw [Bool.eq_iff_iff, decide_eq_true_eq, beq_iff_eq]
        rw [decide_eq_false c, if_neg (by simp), if_neg c, e]
    have hgood : goodL x = (!bd && (!nb && (!x.f1.any numBad && (!x.f2.any S51.bad && (valS x.f0 x.f2.length x.f3 && val5 x.f0 x.f1 x.f4))))) := by
      rw [← hlohi, ← htx, ← hsig, ← hnum]
      unfold goodL checkE
      rw [K.is]
      cases numbersOk (findE x.f0) x.f1 <;> cases signsOk (findE x.f0) x.f3 x.f2.length <;> cases textOkE (findE x.f0) x.f4 <;> cases x.f1.any numBad <;> cases x.f2.any S51.bad <;> cases decide ((findE x.f0).lo ≤ x.f2.length) <;> cases decide ((x.f2.length : Int) ≤ (findE x.f0).hi) <;> cases (findE x.f0).bytes <;> rfl
    rw [hgood]
    refine top bd _ hbd.symm (hj0 _ bd _ ?_)
    rw [hnb]
    by_cases hb : bd = true
    · exact .inl hb
    right
    refine hj1 nb _ ?_
    by_cases hn : nb = true
    · exact .inl hn
    right
    have h5 : ∃ k, lunetteref20_Check.j5 k x.f0 x.f1 x.f2 x.f3 x.f4 = some (val5 x.f0 x.f1 x.f4) := by
      refine ref_j5 _ _ _ _ _ (by omega) (fun hw => ?_)
      have hby : (findE x.f0).bytes = true := by rw [K.bytes]; exact decide_eq_true hw
      obtain ⟨r1, r2, _⟩ := R3 hby
      have h := hnum
      unfold numbersOk at h
      rw [r2] at h
      simp only [Bool.false_eq_true, if_false] at h
      have hnf : nb = false := by simpa using hn
      rw [hnf] at h
      have := of_decide_eq_true h
      omega
    have h1 := ref_l1 x.f0 x.f1 x.f2 x.f3 x.f4 _ h5 (by omega) (by omega) ht x.f2.length 0 (by omega)
    have h0 := ref_l0 x.f0 x.f1 x.f2 x.f3 x.f4 _ h1 (by omega) x.f1.length 0 (by omega)
    rw [List.drop_zero, List.drop_zero] at h0
    exact h0
end Go.Proofs.YtbdoafigggcdpaaGreatDoor.PScr
