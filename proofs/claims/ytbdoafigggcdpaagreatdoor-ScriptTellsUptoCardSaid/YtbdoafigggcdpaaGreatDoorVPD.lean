/- The document's answer of what lines have a text is the program's. No condition of ours. -/
import Derived.Test.YtbdoafigggcdpaaGreatDoorVME
import Derived.Test.YtbdoafigggcdpaaGreatDoorVRD
namespace Go.Proofs.YtbdoafigggcdpaaGreatDoor.PScr
open Go.RowKit Go.Proofs.YtbdoafigggcdpaaGreatDoorW.PrintWords Go.Proofs.YtbdoafigggcdpaaGreatDoorW.PrintLast Go.Proofs.YtbdoafigggcdpaaGreatDoorW.PrintMore
set_option linter.unusedVariables false
set_option linter.unusedSimpArgs false

theorem bt_get (s : ByteArray) (i : Nat) (h : i < s.size) : bt s (i : Int) = ((s.get! i).toNat : Int) := by
  rw [get_get s i h]
  unfold bt
  simp [h]
theorem wrap_up (i : Nat) (h : i < 9223372036854775807) : wrap64 ((i : Int) + 1) = ((i + 1 : Nat) : Int) := by unfold wrap64; omega
theorem range_all (q : Nat → Bool) (i d : Nat) : (List.range' i (d + 1)).all q = (q i && (List.range' (i + 1) d).all q) := by rw [List.range'_succ]; rfl
theorem refName_l0 (s : ByteArray) (hs : s.size < 9223372036854775808) : ∀ (d i k : Nat), i + d = s.size → lunetteref11_Name.l0 (k + d + 1) s (i : Int) = some (((List.range' i d).all fun j => nameAt j (s.get! j).toNat) && decide (s.size ≠ 0) && decide (s.size ≤ 12))
  | 0, i, k, h => by
    unfold lunetteref11_Name.l0
    rw [if_neg (by omega)]
    by_cases h1 : 1 ≤ s.size
    · rw [if_pos (by omega)]
      have e : decide (s.size ≠ 0) = true := decide_eq_true (by omega)
      rw [e]
      simp
      omega
    · rw [if_neg (by omega)]
      have e : decide (s.size ≠ 0) = false := decide_eq_false (by omega)
      rw [e]
      simp
  | d + 1, i, k, h => by
    have hi : i < s.size := by omega
    have ih := refName_l0 s hs d (i + 1) k (by omega)
    rw [show k + (d + 1) + 1 = (k + d + 1) + 1 by omega]
    unfold lunetteref11_Name.l0
    rw [if_pos (by omega), if_pos (by omega), bt_get s i hi, wrap_up i (by omega), ih, range_all]
    obtain ⟨c, hc⟩ : ∃ c, (s.get! i).toNat = c := ⟨_, rfl⟩
    rw [hc]
    cases hq : nameAt i c
    · unfold nameAt isLetter isDigit at hq
      simp only [Bool.or_eq_false_iff, Bool.and_eq_false_iff, decide_eq_false_iff_not] at hq
      simp only [Bool.false_and]
      repeat' split
      all_goals first | rfl | omega
    · unfold nameAt isLetter isDigit at hq
      simp only [Bool.or_eq_true, Bool.and_eq_true, decide_eq_true_eq] at hq
      simp only [Bool.true_and]
      repeat' split
      all_goals first | rfl | omega
theorem refName_f (s : ByteArray) (k : Nat) (hs : s.size < 9223372036854775808) (hk : s.size < k) : lunetteref11_Name.f k s = some (nameOk s) := by
  obtain ⟨m, rfl⟩ : ∃ m, k = m + s.size + 1 := ⟨k - s.size - 1, by omega⟩
  have := refName_l0 s hs s.size 0 m (by omega)
  unfold lunetteref11_Name.f nameOk madeOf allAt
  rw [List.range_eq_range']
  exact this
theorem refID_l0 (s : ByteArray) (hs : s.size < 9223372036854775808) : ∀ (d i k : Nat), i + d = s.size → lunetteref11_ID.l0 (k + d + 1) s (i : Int) = some (((List.range' i d).all fun j => idAt j (s.get! j).toNat) && decide (s.size ≠ 0) && decide (s.size ≤ 16))
  | 0, i, k, h => by
    unfold lunetteref11_ID.l0
    rw [if_neg (by omega)]
    by_cases h1 : 1 ≤ s.size
    · rw [if_pos (by omega)]
      have e : decide (s.size ≠ 0) = true := decide_eq_true (by omega)
      rw [e]
      simp
      omega
    · rw [if_neg (by omega)]
      have e : decide (s.size ≠ 0) = false := decide_eq_false (by omega)
      rw [e]
      simp
  | d + 1, i, k, h => by
    have hi : i < s.size := by omega
    have ih := refID_l0 s hs d (i + 1) k (by omega)
    rw [show k + (d + 1) + 1 = (k + d + 1) + 1 by omega]
    unfold lunetteref11_ID.l0
    rw [if_pos (by omega), if_pos (by omega), bt_get s i hi, wrap_up i (by omega), ih, range_all]
    obtain ⟨c, hc⟩ : ∃ c, (s.get! i).toNat = c := ⟨_, rfl⟩
    rw [hc]
    cases hq : idAt i c
    · unfold idAt isLetter isDigit at hq
      simp only [Bool.or_eq_false_iff, Bool.and_eq_false_iff, decide_eq_false_iff_not] at hq
      simp only [Bool.false_and]
      repeat' split
      all_goals first | rfl | omega
    · unfold idAt isLetter isDigit at hq
      simp only [Bool.or_eq_true, Bool.and_eq_true, decide_eq_true_eq] at hq
      simp only [Bool.true_and]
      repeat' split
      all_goals first | rfl | omega
theorem refID_f (s : ByteArray) (k : Nat) (hs : s.size < 9223372036854775808) (hk : s.size < k) : lunetteref11_ID.f k s = some (idOk s) := by
  obtain ⟨m, rfl⟩ : ∃ m, k = m + s.size + 1 := ⟨k - s.size - 1, by omega⟩
  have := refID_l0 s hs s.size 0 m (by omega)
  unfold lunetteref11_ID.f idOk madeOf allAt
  rw [List.range_eq_range']
  exact this
theorem refUser_f (a b c : ByteArray) (k : Nat) (hk : 9223372036854775808 ≤ k) (ha : a.size < 9223372036854775808) (hb : b.size < 9223372036854775808) (hc : c.size < 9223372036854775808) : lunetteref11_User.f k a b c = some (userOk a b c) := by
  unfold lunetteref11_User.f userOk
  rw [refName_f a k (by omega) (by omega), refID_f b k (by omega) (by omega), refName_f c k (by omega) (by omega)]
  simp only [Option.bind_some]
  cases nameOk a
  · rfl
  · cases idOk b
    · rfl
    · by_cases h : c.toList = []
      · rw [if_pos rfl, if_pos rfl, if_pos h, h]; rfl
      · rw [if_pos rfl, if_pos rfl, if_neg h, beq_eq_false_iff_ne.2 h]; rfl
/-- a tuple's parts are short -/
def S51.short (t : S51) : Prop := t.f0.size < 9223372036854775808 ∧ t.f1.size < 9223372036854775808 ∧ t.f2.size < 9223372036854775808 ∧ t.f3.f0.size < 9223372036854775808 ∧ t.f3.f1.size < 9223372036854775808 ∧ t.f3.f2.size < 9223372036854775808
theorem refTuple_f (t : S51) (k : Nat) (hk : 9223372036854775808 ≤ k) (h : t.short) : lunetteref11_Check.f k t.f0 t.f1 t.f2 t.f3.f0 t.f3.f1 t.f3.f2 = some (!t.bad) := by
  obtain ⟨h0, h1, h2, h3, h4, h5⟩ := h
  unfold lunetteref11_Check.f S51.bad tupleOk
  rw [refName_f _ k (by omega) (by omega), refID_f _ k (by omega) (by omega), refName_f _ k (by omega) (by omega), refUser_f _ _ _ k hk h3 h4 h5]
  simp only [Option.bind_some]
  cases nameOk t.f0
  · rfl
  · cases idOk t.f1
    · rfl
    · cases nameOk t.f2
      · rfl
      · simp

/-! ### the words -/
/-! ### the checks, one behind the other -/
theorem upL {α : Type} (f : Nat → Option α) (hf : ∀ k, LeO (f k) (f (k + 1))) (r : α) : ∀ (m k : Nat), f k = some r → f (k + m) = some r
  | 0, k, h => h
  | m + 1, k, h => hf (k + m) r (upL f hf r m k h)
end Go.Proofs.YtbdoafigggcdpaaGreatDoor.PScr
