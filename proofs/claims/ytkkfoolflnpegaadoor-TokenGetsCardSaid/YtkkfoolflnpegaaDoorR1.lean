/- The walks of the reference's Mark and Digits. No condition of ours. -/
import Derived.Test.YtkkfoolflnpegaaDoorLM
namespace Go.Proofs.YtkkfoolflnpegaaDoor
set_option linter.unusedVariables false
set_option linter.unusedSimpArgs false
open Go Go.RowKit

/-- the last k letters of a mark -/
def lastL (v k : Nat) : List UInt8 := (mark v).data.toList.drop (8 - k)
theorem lastL_step (v k : Nat) (hk : k < 8) : UInt8.ofNat (letter v (7 - k)) :: lastL v k = lastL v (k + 1) := by
  unfold lastL
  have hl : (mark v).data.toList.length = 8 := by rw [Array.length_toList]; exact mark_size v
  have e : 8 - k = (8 - (k + 1)) + 1 := by omega
  have hlt : 8 - (k + 1) < (mark v).data.toList.length := by rw [hl]; omega
  rw [List.drop_eq_getElem_cons hlt, ← e]
  congr 1
  simp only [mark_data, List.getElem_map, List.getElem_range]
  congr 2; omega
theorem letter_rem (v k : Nat) (hk : k < 8) : 97 + v / 16 ^ k % 16 = letter v (7 - k) := by
  unfold letter
  have e : 28 - 4 * (7 - k) = 4 * k := by omega
  have e2 : (16 : Nat) ^ k = 2 ^ (4 * k) := by rw [Nat.pow_mul]
  rw [e, e2]
theorem strOfNums_one (x : Nat) : strOfNums [((x : Nat) : Int)] = ⟨#[UInt8.ofNat x]⟩ := by simp [strOfNums]

theorem rmark_next (v k : Nat) (hk : k < 8) (s : ByteArray) (hs : s.data.toList = lastL v k) : (strOfNums [((97 + v / 16 ^ k % 16 : Nat) : Int)] ++ s).data.toList = lastL v (k + 1) := by
  rw [strOfNums_one, letter_rem v k hk, ← lastL_step v k hk, ← hs]
  simp

set_option maxRecDepth 100000 in
theorem rmark_any (v : Nat) (hv : v < 4294967296) (w : World) :
    Calls Tryd.prog 12 #[.int .u32 v] w fun e w' => e = .returned (.string (mark v)) ∧ Below w.heap.size w w' := by
  go_enter Tryd.func12, Tryd.ntmps12
  go_wp2
  go_loopw [0, 3, 4] (fun n s i wr => ∃ (k : Nat) (t : ByteArray), k ≤ 8 ∧ i = .int .i64 k ∧ n = .int .u32 (v / 16 ^ k : Nat) ∧ s = .string t ∧ t.data.toList = lastL v k ∧ Below w.heap.size w wr) (fun _ _ i _ => 8 - (intOf i).toNat)
  case atStart =>
    refine ⟨0, _, by omega, rfl, by simp, rfl, ?_, Below.refl _ _⟩
    have hl : (mark v).data.toList.length = 8 := by rw [Array.length_toList]; exact mark_size v
    unfold lastL
    rw [List.drop_of_length_le (by rw [hl]; omega)]
  case round =>
    obtain ⟨k, t, hk, rfl, rfl, rfl, hs, hb⟩ := hrel
    have HB := Lib.hid hb; clear hb
    have HS := Lib.hid hs; clear hs
    have hts : t.size ≤ 8 := by
      have h1 : t.data.toList.length = t.size := by rw [Array.length_toList]; rfl
      rw [← h1, HS.out]
      unfold lastL
      have hl : (mark v).data.toList.length = 8 := by rw [Array.length_toList]; exact mark_size v
      rw [List.length_drop, hl]; omega
    by_cases hlt : k < 8
    · have hq : v / 16 ^ k < 4294967296 := Nat.lt_of_le_of_lt (Nat.div_le_self _ _) hv
      have hnext := rmark_next v k hlt t HS.out
      have HNX := Lib.hid hnext; clear hnext
      have hdiv : v / 16 ^ k / 16 = v / 16 ^ (k + 1) := by rw [Nat.div_div_eq_div_mul, ← Nat.pow_succ]
      obtain ⟨n, hn⟩ : ∃ n, v / 16 ^ k = n := ⟨_, rfl⟩
      rw [hn] at hq hdiv ⊢
      have HN := Lib.hid hn; clear hn
      have HD := Lib.hid hdiv; clear hdiv
      have hcv := run_convert_bytes_arg (w := wr.alloc (.cells #[.int .u8 (97 + (n : Int) % 16)] 5)) (P := Tryd.prog) 35 5 Tryd.underlying35 Tryd.underlying5 wr.heap.size 0 1 1 [(97 + (n : Int) % 16)] rfl (fun i hi => by
        obtain rfl : i = 0 := by omega
        rw [blk_cell (blk_new _ _)]; rfl) 9 Tryd.underlying9
      have hs1 : (strOfNums [(97 + (n : Int) % 16)]).size = 1 := by rw [strOfNums_size]; rfl
      go_wp2
      refine ⟨⟨k + 1, _, by omega, by go_num, u32_cong (by rw [← HD.out]; omega), rfl, ?_, HB.out.alloc HB.out.size _⟩, by simp [intOf]; omega⟩
      rw [← HNX.out, HN.out]
      rfl
    · obtain rfl : k = 8 := by omega
      go_wp2
      go_ret
      exact ⟨by rw [show t = mark v from ba_ext HS.out]; rfl, HB.out⟩

/-- the digits that are still to come -/
def restD (n : Nat) : List UInt8 := if n = 0 then [] else Lib.decDigits n
theorem restD_step (n : Nat) (hn : 0 < n) : restD n = restD (n / 10) ++ [UInt8.ofNat (48 + n % 10)] := by
  unfold restD
  rw [if_neg (by omega)]
  by_cases h : n / 10 = 0
  · rw [if_pos h]
    unfold Lib.decDigits
    rw [dif_pos (by omega)]
    have : n % 10 = n := by omega
    rw [this]; rfl
  · rw [if_neg h, Lib.decDigits]
    rw [dif_neg (by omega)]

set_option maxRecDepth 100000 in
theorem rdigits_any (v : Nat) (h1 : 1 ≤ v) (hv : v ≤ 4294967295) (w : World) :
    Calls Tryd.prog 21 #[.int .i64 v] w fun e w' => e = .returned (.string ⟨(Lib.decDigits v).toArray⟩) ∧ Below w.heap.size w w' := by
  go_enter Tryd.func21, Tryd.ntmps21
  go_wp2
  go_loopw [0, 3] (fun n s wr => ∃ (k : Nat) (t : ByteArray), k ≤ v ∧ n = .int .i64 k ∧ s = .string t ∧ restD k ++ t.data.toList = Lib.decDigits v ∧ Below w.heap.size w wr) (fun n _ _ => (intOf n).toNat)
  case atStart => exact ⟨v, _, by omega, rfl, rfl, by unfold restD; rw [if_neg (by omega)]; simp, Below.refl _ _⟩
  case round =>
    obtain ⟨k, t, hk, rfl, rfl, hs, hb⟩ := hrel
    have HB := Lib.hid hb; clear hb
    have hts : t.size ≤ 20 := by
      have h1 : t.data.toList.length = t.size := by rw [Array.length_toList]; rfl
      have h2 := congrArg List.length hs
      have h3 := digits_len 9 v (by omega)
      simp only [List.length_append, h1] at h2
      omega
    by_cases hlt : 0 < k
    · have hst := restD_step k hlt
      rw [hst, List.append_assoc] at hs
      have HS := Lib.hid hs; clear hs hst
      have hcv := run_convert_bytes_arg (w := wr.alloc (.cells #[.int .u8 (48 + (k : Int) % 10)] 5)) (P := Tryd.prog) 35 5 Tryd.underlying35 Tryd.underlying5 wr.heap.size 0 1 1 [(48 + (k : Int) % 10)] rfl (fun i hi => by
        obtain rfl : i = 0 := by omega
        rw [blk_cell (blk_new _ _)]; rfl) 9 Tryd.underlying9
      have hs1 : (strOfNums [(48 + (k : Int) % 10)]).size = 1 := by rw [strOfNums_size]; rfl
      have hst2 : (strOfNums [(48 + (k : Int) % 10)] ++ t).data.toList = UInt8.ofNat (48 + k % 10) :: t.data.toList := by
        have e : (48 + (k : Int) % 10) = ((48 + k % 10 : Nat) : Int) := by omega
        rw [e, strOfNums_one]; simp
      have HS2 := Lib.hid hst2; clear hst2
      by_cases he : t.toList = []
      · go_wp2
        exact ⟨⟨k / 10, _, by omega, by go_num, rfl, by rw [HS2.out]; simpa using HS.out, HB.out.alloc HB.out.size _⟩, by simp [intOf]; omega⟩
      · go_wp2
        exact ⟨⟨k / 10, _, by omega, by go_num, rfl, by rw [HS2.out]; simpa using HS.out, HB.out.alloc HB.out.size _⟩, by simp [intOf]; omega⟩
    · obtain rfl : k = 0 := by omega
      have hd : t = ⟨(Lib.decDigits v).toArray⟩ := by apply ba_ext; simpa [restD] using hs
      have hne : (t.toList == []) = false := by
        rw [beq_eq_false_iff_ne, ByteArray.toList_eq, hd]
        simpa using digits_ne v
      have HD := Lib.hid hd; clear hd hs
      go_wp2
      go_ret
      exact ⟨by rw [← HD.out]; rfl, HB.out⟩
end Go.Proofs.YtkkfoolflnpegaaDoor
