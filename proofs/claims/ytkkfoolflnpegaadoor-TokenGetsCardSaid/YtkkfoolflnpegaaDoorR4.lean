/- The plain law, its end: the reference's sum is the program's. No condition of ours. -/
import Derived.Test.YtkkfoolflnpegaaDoorR3
import Derived.Test.YtkkfoolflnpegaaDoorS
namespace Go.Proofs.YtkkfoolflnpegaaDoor
set_option linter.unusedVariables false
set_option linter.unusedSimpArgs false
open Go Go.RowKit

theorem step1_xor (a b : Nat) : step1 (a ^^^ b) = step1 a ^^^ step1 b := by
  apply Nat.eq_of_testBit_eq
  intro j
  rw [Nat.testBit_xor, step1_bit, step1_bit, step1_bit, Nat.testBit_xor, Nat.testBit_xor]
  cases a.testBit (j + 1) <;> cases b.testBit (j + 1) <;> cases a.testBit 0 <;> cases b.testBit 0 <;> cases polyBit j <;> rfl
theorem steps_xor (m a b : Nat) : steps m (a ^^^ b) = steps m a ^^^ steps m b := by
  induction m with
  | zero => rfl
  | succ m ih => simp only [steps]; rw [ih, step1_xor]
theorem step1_even (y : Nat) : step1 (y * 2) = y := by unfold step1; rw [if_neg (by omega)]; omega
theorem steps_up (t : Nat) : ∀ y, steps t (y * 2 ^ t) = y := by
  induction t with
  | zero => intro y; simp [steps]
  | succ t ih =>
    intro y
    simp only [steps]
    rw [show y * 2 ^ (t + 1) = (y * 2) * 2 ^ t by rw [Nat.pow_succ, Nat.mul_assoc, Nat.mul_comm 2]]
    rw [ih, step1_even]
theorem split8 (x : Nat) : x = (x / 256 * 2 ^ 8) ^^^ (x % 256) := by
  apply Nat.eq_of_testBit_eq
  intro j
  rw [Nat.testBit_xor, Nat.testBit_mul_two_pow, show (256 : Nat) = 2 ^ 8 by decide, Nat.testBit_div_two_pow, Nat.testBit_mod_two_pow]
  by_cases h : 8 ≤ j
  · have e : j - 8 + 8 = j := by omega
    have e2 : 8 + (j - 8) = j := by omega
    have h2 : ¬ j < 8 := by omega
    simp [h, h2, e, e2]
  · have h2 : j < 8 := by omega
    simp [h, h2]
theorem steps8 (x : Nat) : steps 8 x = (x / 256) ^^^ tabOf (x % 256) := by
  have h := congrArg (steps 8) (split8 x)
  rw [steps_xor, steps_up] at h
  exact h
theorem xor_byte (r c : Nat) (hc : c < 256) : (r ^^^ c) / 256 = r / 256 ∧ (r ^^^ c) % 256 = (r % 256) ^^^ c := by
  have e : (256 : Nat) = 2 ^ 8 := by decide
  constructor
  · rw [e, ← Nat.shiftRight_eq_div_pow, ← Nat.shiftRight_eq_div_pow, Nat.shiftRight_xor_distrib, Nat.shiftRight_eq_div_pow c, Nat.div_eq_of_lt (by rw [← e]; exact hc), Nat.xor_zero]
  · rw [e, Nat.xor_mod_two_pow, Nat.mod_eq_of_lt (show c < 2 ^ 8 by rw [← e]; exact hc)]
theorem feed_steps (r c : Nat) (hc : c < 256) : feed r c = steps 8 (r ^^^ c) := by
  obtain ⟨h1, h2⟩ := xor_byte r c hc
  rw [steps8, h1, h2]; rfl

/-- t bits of a byte, one by one -/
theorem eight (m : Nat → Bool) (i c : Nat) (hm : ∀ t, t < 8 → m (i + t) = c.testBit t) : ∀ t, t ≤ 8 → reg m (i + t) = steps t (reg m i ^^^ c % 2 ^ t)
  | 0, _ => by simp [steps, Nat.mod_one]
  | t + 1, ht => by
    have ih := eight m i c hm t (by omega)
    show bstep (reg m (i + t)) (m (i + t)) = _
    rw [ih, hm t (by omega)]
    unfold bstep
    have hb : (if c.testBit t then 1 else 0 : Nat) = steps t ((if c.testBit t then 1 else 0) * 2 ^ t) := (steps_up t _).symm
    rw [hb, ← steps_xor]
    simp only [steps]
    congr 2
    rw [Nat.xor_assoc]
    congr 1
    apply Nat.eq_of_testBit_eq
    intro j
    rw [Nat.testBit_xor, Nat.testBit_mod_two_pow, Nat.testBit_mod_two_pow, Nat.testBit_mul_two_pow]
    by_cases h1 : j < t
    · have h2 : ¬ t ≤ j := by omega
      have h3 : j < t + 1 := by omega
      simp [h1, h2, h3]
    · by_cases h4 : j = t
      · subst h4
        cases c.testBit j <;> simp
      · have h3 : ¬ j < t + 1 := by omega
        have h5 : t ≤ j := by omega
        have h6 : (if c.testBit t then 1 else 0 : Nat).testBit (j - t) = false := by
          obtain ⟨q, hq⟩ : ∃ q, j - t = q + 1 := ⟨j - t - 1, by omega⟩
          rw [hq]; cases c.testBit t <;> simp [Nat.testBit_succ]
        simp [h1, h3, h5, h6]

theorem reg_run (s : ByteArray) : ∀ k, k ≤ s.size → reg (msgBit s) (8 * k) = crcRun 4294967295 (s.data.toList.take k)
  | 0, _ => rfl
  | k + 1, hk => by
    have ih := reg_run s k (by omega)
    have hcl : (s[k]'(by omega)).toNat < 256 := by have := (s[k]'(by omega)).toNat_lt; simpa using this
    have h8 := eight (msgBit s) (8 * k) (s[k]'(by omega)).toNat (fun t ht => by
      unfold msgBit
      have e2 : (8 * k + t) / 8 = k := by omega
      have e3 : (8 * k + t) % 8 = t := by omega
      have hlt : k < s.size := by omega
      simp only [e2, e3, hlt, dif_pos]) 8 (by omega)
    rw [show 8 * (k + 1) = 8 * k + 8 by omega, h8, ih, take_snoc' s k (by omega), crcRun_snoc, feed_steps _ _ hcl, Nat.mod_eq_of_lt (show (s[k]'(by omega)).toNat < 2 ^ 8 from hcl)]

theorem rest_top (f : Nat → Bool) (n r : Nat) (hr : r < 4294967296) (hf : ∀ j, j < 32 → f (n + j) = r.testBit j) : ∀ k, k ≤ 32 → restN f n k = (4294967295 - r) / 2 ^ (32 - k)
  | 0, _ => by
    show 0 = _
    rw [Nat.div_eq_of_lt]; omega
  | k + 1, hk => by
    have ih := rest_top f n r hr hf k (by omega)
    simp only [restN]
    rw [ih, hf (31 - k) (by omega)]
    have e1 : 32 - k = (31 - k) + 1 := by omega
    have e2 : 32 - (k + 1) = 31 - k := by omega
    rw [e1, e2, Nat.pow_succ, ← Nat.div_div_eq_div_mul]
    have hbit : (4294967295 - r).testBit (31 - k) = !r.testBit (31 - k) := by
      have := Nat.testBit_two_pow_sub_succ (n := 32) (x := r) hr (31 - k)
      have e3 : (2 ^ 32 - (r + 1) : Nat) = 4294967295 - r := by omega
      rw [e3] at this
      rw [this]
      have : 31 - k < 32 := by omega
      simp [this]
    have hval := bit_val (4294967295 - r) (31 - k)
    rw [hbit] at hval
    obtain ⟨q, hq⟩ : ∃ q, (4294967295 - r) / 2 ^ (31 - k) = q := ⟨_, rfl⟩
    rw [hq] at hval ⊢
    cases hb : r.testBit (31 - k) with
    | true => rw [hb] at hval; simp at hval ⊢; omega
    | false => rw [hb] at hval; simp at hval ⊢; omega

theorem ref_crc (s : ByteArray) : refCrc s = crc s.data.toList := by
  have hw := window s (8 * s.size)
  have hr := reg_run s s.size (Nat.le_refl _)
  rw [List.take_of_length_le (by simp)] at hr
  unfold refCrc crc
  rw [rest_top _ _ (reg (msgBit s) (8 * s.size)) (reg_lt _ _) (fun j hj => by
    rw [hw j, if_pos hj]
    have : msgBit s (8 * s.size + j) = false := by unfold msgBit; rw [dif_neg (by omega)]
    rw [this]; simp) 32 (by omega), hr]
  simp
end Go.Proofs.YtkkfoolflnpegaaDoor
