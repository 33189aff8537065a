/- The plain law: the long division's rest is the table-driven sum. No condition of ours. -/
import Derived.Test.YtkkfoolflnpegaaDoorR2
namespace Go.Proofs.YtkkfoolflnpegaaDoor
set_option linter.unusedVariables false
set_option linter.unusedSimpArgs false
open Go Go.RowKit

/-- the divisor's bits, one place on -/
def polyBit (d : Nat) : Bool := decide (d ∈ [5, 8, 9, 15, 19, 20, 21, 23, 24, 26, 27, 29, 30, 31])

theorem poly_bits (j : Nat) : poly.testBit j = polyBit j := by
  by_cases h : j < 32
  · have : ∀ j : Fin 32, poly.testBit j.val = polyBit j.val := by decide +kernel
    exact this ⟨j, h⟩
  · have h1 : poly.testBit j = false := Nat.testBit_lt_two_pow (Nat.lt_of_lt_of_le (show poly < 2 ^ 32 by decide) (Nat.pow_le_pow_right (by omega) (by omega)))
    rw [h1]; unfold polyBit
    symm
    rw [decide_eq_false_iff_not]
    simp; omega

theorem step1_bit (v j : Nat) : (step1 v).testBit j = (v.testBit (j + 1) ^^ (v.testBit 0 && polyBit j)) := by
  have h0 : v.testBit 0 = decide (v % 2 = 1) := by rw [Nat.testBit_zero]
  unfold step1
  split
  · rename_i h
    rw [Nat.testBit_xor, poly_bits, h0, Nat.testBit_div_two]
    simp [h]
  · rename_i h
    rw [h0, Nat.testBit_div_two]
    simp [h]

/-- the register, one bit on -/
def bstep (r : Nat) (b : Bool) : Nat := step1 (r ^^^ (if b then 1 else 0))
/-- the register behind i bits -/
def reg (m : Nat → Bool) : Nat → Nat
  | 0 => 4294967295
  | i + 1 => bstep (reg m i) (m i)

theorem bstep_bit (r : Nat) (b : Bool) (j : Nat) : (bstep r b).testBit j = (r.testBit (j + 1) ^^ ((r.testBit 0 ^^ b) && polyBit j)) := by
  unfold bstep
  rw [step1_bit, Nat.testBit_xor, Nat.testBit_xor]
  have e1 : (if b then 1 else 0 : Nat).testBit (j + 1) = false := by cases b <;> simp [Nat.testBit_succ]
  have e2 : (if b then 1 else 0 : Nat).testBit 0 = b := by cases b <;> simp
  rw [e1, e2]; simp

theorem reg_lt (m : Nat → Bool) : ∀ i, reg m i < 4294967296
  | 0 => by simp [reg]
  | i + 1 => step1_lt (by
      have := reg_lt m i
      exact Nat.xor_lt_two_pow (n := 32) (by omega) (by cases m i <;> simp))
theorem reg_high (m : Nat → Bool) (i : Nat) : (reg m i).testBit 32 = false := Nat.testBit_lt_two_pow (reg_lt m i)

/-- what the flips at i do, place by place -/
def flD : Nat → Bool → Nat → Bool
  | 0, b, _ => b
  | k + 1, b, d => if d = 32 - powL.getD k 0 then !(flD k b d) else flD k b d
theorem flip_at (i : Nat) (f : Nat → Bool) (d : Nat) : ∀ k, k ≤ 15 → flipTo i f k (i + d) = flD k (f (i + d)) d
  | 0, _ => rfl
  | k + 1, hk => by
    have hp := powL_le k
    have h1 := flip_at i f d k (by omega)
    show (if i + d = i + 32 - powL.getD k 0 then _ else _) = _
    have e : (i + d = i + 32 - powL.getD k 0) ↔ (d = 32 - powL.getD k 0) := by omega
    unfold flD
    by_cases h : d = 32 - powL.getD k 0
    · rw [if_pos h, if_pos (e.2 h), h1]
    · rw [if_neg h, if_neg (fun h' => h (e.1 h')), h1]
theorem flD_in (b : Bool) (d : Nat) (hd : d ≤ 32) : flD 15 b d = (b ^^ (decide (d = 0) || (decide (0 < d) && polyBit (d - 1)))) := by
  have : ∀ (d : Fin 33), ∀ b, flD 15 b d.val = (b ^^ (decide (d.val = 0) || (decide (0 < d.val) && polyBit (d.val - 1)))) := by decide +kernel
  exact this ⟨d, by omega⟩ b
theorem flD_out (b : Bool) (d : Nat) (hd : 32 < d) : ∀ k, flD k b d = b
  | 0 => rfl
  | k + 1 => by unfold flD; rw [if_neg (by omega)]; exact flD_out b d hd k

/-- the window behind i steps: the register, the message's bits laid over it -/
theorem window (s : ByteArray) : ∀ (i d : Nat), divTo (headT s 32) i (i + d) = ((if d < 32 then (reg (msgBit s) i).testBit d else false) ^^ msgBit s (i + d))
  | 0, d => by
    show headT s 32 (0 + d) = _
    unfold headT
    rw [Nat.zero_add]
    by_cases h : d < 32
    · rw [if_pos h, if_pos h]
      have : ∀ d : Fin 32, (4294967295 : Nat).testBit d.val = true := by decide +kernel
      have h1 : (reg (msgBit s) 0).testBit d = true := this ⟨d, h⟩
      rw [h1]; simp
    · rw [if_neg h, if_neg h]; simp
  | i + 1, d => by
    have ih := fun d => window s i d
    have h0 := ih 0
    rw [Nat.add_zero, if_pos (by omega)] at h0
    have hd := ih (d + 1)
    have e : i + 1 + d = i + (d + 1) := by omega
    rw [e]
    show (if divTo (headT s 32) i i then flipTo i (divTo (headT s 32) i) 15 else divTo (headT s 32) i) (i + (d + 1)) = _
    have hreg : (reg (msgBit s) (i + 1)).testBit d = ((reg (msgBit s) i).testBit (d + 1) ^^ (((reg (msgBit s) i).testBit 0 ^^ msgBit s i) && polyBit d)) := bstep_bit _ _ _
    have hhi := reg_high (msgBit s) i
    rw [h0] at *
    by_cases hd32 : d < 32
    · rw [if_pos hd32, hreg]
      cases hb : ((reg (msgBit s) i).testBit 0 ^^ msgBit s i) with
      | true =>
        rw [if_pos rfl, flip_at _ _ _ 15 (by omega), flD_in _ _ (by omega), hd]
        have e1 : decide (d + 1 = 0) = false := by simp
        have e2 : decide (0 < d + 1) = true := by simp
        rw [e1, e2, Nat.add_sub_cancel]
        by_cases h31 : d + 1 < 32
        · rw [if_pos h31]
          cases (reg (msgBit s) i).testBit (d + 1) <;> cases msgBit s (i + (d + 1)) <;> cases polyBit d <;> rfl
        · rw [if_neg h31]
          have : d + 1 = 32 := by omega
          rw [this, hhi]
          cases msgBit s (i + 32) <;> cases polyBit d <;> rfl
      | false =>
        rw [if_neg (by simp), hd]
        by_cases h31 : d + 1 < 32
        · rw [if_pos h31]; simp
        · rw [if_neg h31]
          have : d + 1 = 32 := by omega
          rw [this, hhi]; simp
    · rw [if_neg hd32]
      cases hb : ((reg (msgBit s) i).testBit 0 ^^ msgBit s i) with
      | true =>
        rw [if_pos rfl, flip_at _ _ _ 15 (by omega), flD_out _ _ (by omega), hd, if_neg (by omega)]
      | false =>
        rw [if_neg (by simp), hd, if_neg (by omega)]
end Go.Proofs.YtkkfoolflnpegaaDoor
