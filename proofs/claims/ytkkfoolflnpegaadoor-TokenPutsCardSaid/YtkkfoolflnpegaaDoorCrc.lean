/- The plain law of the sum: numbers alone. -/
namespace Go.Proofs.YtkkfoolflnpegaaDoor
set_option linter.unusedVariables false
set_option linter.unusedSimpArgs false
def poly : Nat := 3988292384
def step1 (v : Nat) : Nat := if v % 2 = 1 then (v / 2) ^^^ poly else v / 2
def steps : Nat → Nat → Nat
  | 0, v => v
  | m + 1, v => step1 (steps m v)
def tabOf (i : Nat) : Nat := steps 8 i
def feed (v c : Nat) : Nat := (v / 256) ^^^ tabOf ((v % 256) ^^^ c)
def crcRun (v : Nat) (bs : List UInt8) : Nat := bs.foldl (fun v b => feed v b.toNat) v
def crc (bs : List UInt8) : Nat := 4294967295 - crcRun 4294967295 bs

theorem step1_lt {v : Nat} (h : v < 4294967296) : step1 v < 4294967296 := by
  unfold step1
  split
  · exact Nat.xor_lt_two_pow (n := 32) (by omega) (by decide)
  · omega
theorem steps_lt (m : Nat) {v : Nat} (h : v < 4294967296) : steps m v < 4294967296 := by
  induction m with
  | zero => exact h
  | succ m ih => exact step1_lt ih
theorem tabOf_lt {i : Nat} (h : i < 256) : tabOf i < 4294967296 := steps_lt 8 (by omega)
theorem feed_lt {v c : Nat} (h : v < 4294967296) (hc : c < 256) : feed v c < 4294967296 := by
  unfold feed
  exact Nat.xor_lt_two_pow (n := 32) (by omega) (tabOf_lt (Nat.xor_lt_two_pow (n := 8) (by omega) hc))
theorem crcRun_lt (bs : List UInt8) : ∀ {v : Nat}, v < 4294967296 → crcRun v bs < 4294967296 := by
  induction bs with
  | nil => intro v h; exact h
  | cons b bs ih => intro v h; exact ih (feed_lt h (by have := b.toNat_lt; simpa using this))
theorem crc_lt (bs : List UInt8) : crc bs < 4294967296 := by unfold crc; omega
theorem crcRun_snoc (v : Nat) (bs : List UInt8) (b : UInt8) : crcRun v (bs ++ [b]) = feed (crcRun v bs) b.toNat := by simp [crcRun]
theorem step_odd (v : Nat) (h : v % 2 = 1) (m : Nat) (u : Nat) (hu : steps m u = v) : v / 2 ^^^ poly = steps (m + 1) u := by
  subst hu; simp only [steps, step1]; rw [if_pos h]
theorem step_even (v : Nat) (h : ¬ v % 2 = 1) (m : Nat) (u : Nat) (hu : steps m u = v) : v / 2 = steps (m + 1) u := by
  subst hu; simp only [steps, step1]; rw [if_neg h]
end Go.Proofs.YtkkfoolflnpegaaDoor
