/- An answer's words; the document's words for its parts. No condition of ours. -/
import Derived.Test.YtbdoafigggcdpaaGreatDoorVLN
import Derived.Test.YtbdoafigggcdpaaGreatDoorVTA
import Derived.Test.YtbdoafigggcdpaaGreatDoorVTB
namespace Go.Proofs.YtbdoafigggcdpaaGreatDoor.PScr
open Go.RowKit Go.Proofs.YtbdoafigggcdpaaGreatDoorW.PrintWords Go.Proofs.YtbdoafigggcdpaaGreatDoorW.PrintLast Go.Proofs.YtbdoafigggcdpaaGreatDoorW.PrintMore
set_option linter.unusedVariables false
set_option linter.unusedSimpArgs false

/-! ### digits of any number -/
theorem dig_at2 (v : Nat) : strOfNums [(wrap64 (48 + (Int.tmod (v : Int) 10))) % 256] = ⟨#[UInt8.ofNat (48 + v % 10)]⟩ := by
  have e : (wrap64 (48 + (Int.tmod (v : Int) 10))) % 256 = ((48 + v % 10 : Nat) : Int) := by
    rw [Int.tmod_eq_emod_of_nonneg (by omega)]
    unfold wrap64
    omega
  rw [e]
  rfl
theorem dig_div2 (v : Nat) (hv : v < 9223372036854775808) : wrap64 (Int.tdiv (v : Int) 10) = ((v / 10 : Nat) : Int) := by
  rw [Int.tdiv_eq_ediv_of_nonneg (by omega)]
  unfold wrap64
  omega
theorem refDig2_l0 : ∀ (d v : Nat) (acc : ByteArray), v < 10 ^ d → v < 9223372036854775808 → acc.toList ≠ [] → acc.size + d ≤ 1000000 → ∃ k, lunetteref16_Digits.l0 k (v : Int) acc = some (⟨(restDig v).toArray⟩ ++ acc)
  | 0, v, acc, hd, hv, ha, hs => by
    have h0 : v = 0 := by simp at hd; omega
    refine ⟨1, ?_⟩
    unfold lunetteref16_Digits.l0
    rw [if_neg ha, if_neg (by omega), h0]
    have e : (⟨(restDig 0).toArray⟩ : ByteArray) ++ acc = acc := ba_ext (by rw [ByteArray.data_append]; simp [restDig])
    rw [e]
  | d + 1, v, acc, hd, hv, ha, hs => by
    by_cases h0 : v = 0
    · refine ⟨1, ?_⟩
      unfold lunetteref16_Digits.l0
      rw [if_neg ha, if_neg (by omega), h0]
      have e : (⟨(restDig 0).toArray⟩ : ByteArray) ++ acc = acc := ba_ext (by rw [ByteArray.data_append]; simp [restDig])
      rw [e]
    · have hsz : ((⟨#[UInt8.ofNat (48 + v % 10)]⟩ : ByteArray) ++ acc).size = 1 + acc.size := by rw [ByteArray.size_append]; rfl
      have hd2 : v / 10 < 10 ^ d := by rw [Nat.pow_succ] at hd; omega
      obtain ⟨k, hk⟩ := refDig2_l0 d (v / 10) (⟨#[UInt8.ofNat (48 + v % 10)]⟩ ++ acc) hd2 (by omega) (by
        intro h
        have h2 := tl_nil h
        rw [h2] at hsz
        have e0 : (⟨#[]⟩ : ByteArray).size = 0 := rfl
        omega) (by omega)
      refine ⟨k + 1, ?_⟩
      unfold lunetteref16_Digits.l0
      rw [if_neg ha, if_pos (by omega)]
      simp only [Option.bind_some]
      have e1 : (⟨#[UInt8.ofNat (48 + v % 10)]⟩ : ByteArray).size = 1 := rfl
      rw [dig_at2 v, e1, if_pos (by omega), dig_div2 v hv, hk]
      congr 1
      refine ba_ext ?_
      rw [ByteArray.data_append, ByteArray.data_append, ByteArray.data_append, Array.toList_append, Array.toList_append, Array.toList_append, restDig_step v (by omega)]
      simp
theorem refDig2_f (n : Int) (h0 : 0 ≤ n) (h1 : n < 9223372036854775808) : ∃ k, lunetteref16_Digits.f k n = some (itoaB n) := by
  obtain ⟨v, rfl⟩ := Int.eq_ofNat_of_zero_le h0
  obtain ⟨k, hk⟩ := refDig2_l0 30 (v / 10) (⟨#[UInt8.ofNat (48 + v % 10)]⟩ ++ ⟨#[]⟩) (by omega) (by omega) (by rw [ByteArray.toList_eq, ByteArray.data_append]; simp) (by rw [ByteArray.size_append]; have e1 : (⟨#[UInt8.ofNat (48 + v % 10)]⟩ : ByteArray).size = 1 := rfl; have e0 : (⟨#[]⟩ : ByteArray).size = 0 := rfl; omega)
  refine ⟨k + 1, ?_⟩
  unfold lunetteref16_Digits.f lunetteref16_Digits.l0
  have e0 : (⟨#[]⟩ : ByteArray).toList = [] := by rw [ByteArray.toList_eq]
  have e1 : (⟨#[UInt8.ofNat (48 + v % 10)]⟩ : ByteArray).size = 1 := rfl
  have e2 : (⟨#[]⟩ : ByteArray).size = 0 := rfl
  rw [if_pos e0]
  simp only [Option.bind_some]
  rw [dig_at2 v, e1, e2, if_pos (by omega), dig_div2 v (by omega), hk]
  congr 1
  refine ba_ext ?_
  rw [itoaB_list _ (by omega), ByteArray.data_append, ByteArray.data_append, Array.toList_append, Array.toList_append]
  have e3 : (v : Int).toNat = v := by omega
  rw [e3]
  have e4 : restDig (v / 10) ++ [UInt8.ofNat (48 + v % 10)] = Lib.decDigits v := by
    by_cases hv : v = 0
    · subst hv
      rw [Lib.decDigits]
      rfl
    · rw [← restDig_step v (by omega)]
      unfold restDig
      rw [if_neg hv]
  rw [← e4]
  simp
/-- a number that may be told -/
def numIn (n : Int) : Prop := -1000000 ≤ n ∧ n < 9223372036854775808
theorem itoaB_size2 (n : Int) (h : numIn n) : (itoaB n).size ≤ 40 := by
  obtain ⟨h0, h1⟩ := h
  have hd : ∀ v : Nat, v < 10000000000000000000 → (Lib.decDigits v).length ≤ 30 := fun v hv => by
    have := digits_len 18 v (by omega)
    omega
  have e : (itoaB n).size = (Lib.itoa n).length := by unfold itoaB; show (Lib.itoa n).toArray.size = _; simp
  rw [e]
  unfold Lib.itoa
  split
  · have := hd n.natAbs (by omega)
    rw [List.length_cons]; omega
  · have := hd n.toNat (by omega)
    omega
theorem refSigned_f (n : Int) (h : numIn n) : ∃ k, lunetteref20_signed.f k n = some (itoaB n) := by
  obtain ⟨h0, h1⟩ := h
  by_cases hn : n < 0
  · obtain ⟨k, hk⟩ := refDig2_f (-n) (by omega) (by omega)
    refine ⟨k, ?_⟩
    have hs := itoaB_size2 (-n) ⟨by omega, by omega⟩
    have ew : wrap64 (-n) = -n := by unfold wrap64; omega
    unfold lunetteref20_signed.f
    rw [if_pos hn, ew, hk, Option.bind_some, if_pos (by omega)]
    congr 1
    refine ba_ext ?_
    rw [ByteArray.data_append, Array.toList_append, itoaB_list _ (by omega)]
    unfold itoaB Lib.itoa
    rw [if_pos hn]
    have e : n.natAbs = (-n).toNat := by omega
    rw [e]
    simp
  · obtain ⟨k, hk⟩ := refDig2_f n (by omega) h1
    refine ⟨k, ?_⟩
    unfold lunetteref20_signed.f
    rw [if_neg hn, hk, Option.bind_some]

/-! ### a tuple's, a user's word -/
def tupW (t : S51) : ByteArray := if tupleOk t.f0 t.f1 t.f2 t.f3.f0 t.f3.f1 t.f3.f2 then tupleText t.f0 t.f1 t.f2 t.f3.f0 t.f3.f1 t.f3.f2 else ⟨#[]⟩
def usrW (u : S49) : ByteArray := if userOk u.f0 u.f1 u.f2 then userText u.f0 u.f1 u.f2 else ⟨#[]⟩
theorem tupW_size (t : S51) : (tupW t).size ≤ 1000 := by
  unfold tupW
  cases h : tupleOk t.f0 t.f1 t.f2 t.f3.f0 t.f3.f1 t.f3.f2
  · exact Nat.zero_le _
  · have := tupleText_size (t := t) (by unfold S51.bad; rw [h]; rfl)
    simpa using this
theorem usrW_size (u : S49) : (usrW u).size ≤ 1000 := by
  unfold usrW
  cases h : userOk u.f0 u.f1 u.f2
  · exact Nat.zero_le _
  · obtain ⟨a, b, c⟩ := user_sizes h
    have := userText_size u.f0 u.f1 u.f2 a b c
    simp only [if_true]; omega
def S49.short (u : S49) : Prop := u.f0.size < 9223372036854775808 ∧ u.f1.size < 9223372036854775808 ∧ u.f2.size < 9223372036854775808
theorem refTup2_f (t : S51) (h : t.short) : ∃ k, lunetteref20_tuple.f k t.f0 t.f1 t.f2 t.f3.f0 t.f3.f1 t.f3.f2 = some (tupW t) := by
  refine ⟨9223372036854775808, ?_⟩
  unfold lunetteref20_tuple.f tupW
  rw [refTuple_f t _ (Nat.le_refl _) h, Option.bind_some]
  unfold S51.bad
  cases hk : tupleOk t.f0 t.f1 t.f2 t.f3.f0 t.f3.f1 t.f3.f2
  · rfl
  · obtain ⟨a0, a1, a2, _, a4, a5, a6⟩ := tuple_sizes hk
    simp only [Bool.not_true, Bool.not_false, if_true]
    unfold lunetteref11_Show.f
    rw [if_pos ⟨a0, a1, a2, a4, a5, a6⟩, Option.bind_some]
theorem refUsr2_f (u : S49) (h : u.short) : ∃ k, lunetteref20_user.f k u.f0 u.f1 u.f2 = some (usrW u) := by
  refine ⟨9223372036854775808, ?_⟩
  unfold lunetteref20_user.f usrW
  rw [refUser_f u.f0 u.f1 u.f2 _ (Nat.le_refl _) h.1 h.2.1 h.2.2, Option.bind_some]
  cases hk : userOk u.f0 u.f1 u.f2
  · rfl
  · obtain ⟨a, b, c⟩ := user_sizes hk
    simp only [if_true]
    unfold lunetteref11_ShowUser.f
    rw [if_pos ⟨a, b, c⟩, Option.bind_some]

/-! ### a tree's nodes -/
mutual
def nodes : S44 → Nat
  | ⟨_, _, ps⟩ => 1 + nodesL ps
def nodesL : List S44 → Nat
  | [] => 0
  | p :: r => nodes p + nodesL r
end
theorem nodes_eq (t : S44) : nodes t = 1 + nodesL t.f2 := by cases t; rw [nodes]
theorem nodesL_at : ∀ (l : List S44) (i : Nat), i < l.length → nodesL (l.drop i) = nodes (rd_T44 l (i : Int)) + nodesL (l.drop (i + 1))
  | p :: r, 0, h => by
    show nodesL (p :: r) = _
    rw [nodesL]
    rfl
  | p :: r, i + 1, h => by
    have e : rd_T44 (p :: r) ((i + 1 : Nat) : Int) = rd_T44 r (i : Int) := by unfold rd_T44; simp
    rw [e]
    exact nodesL_at r i (by simpa using h)
end Go.Proofs.YtbdoafigggcdpaaGreatDoor.PScr
