/- The walk of the law on marks. No condition of ours. -/
import Derived.Test.YtkkfoolflnpegaaDoorW0
namespace Go.Proofs.YtkkfoolflnpegaaDoor
set_option linter.unusedVariables false
set_option linter.unusedSimpArgs false
open Go Go.RowKit

theorem mark_data (v : Nat) : (mark v).data.toList = (List.range 8).map fun j => UInt8.ofNat (letter v j) := by
  unfold mark
  rw [strOfNums_data]
  simp only [markNums, List.map_map]
  apply List.map_congr_left
  intro j hj
  have : j < 8 := by simpa using hj
  simp [this]
theorem letter_rng (v j : Nat) : 97 ≤ letter v j ∧ letter v j ≤ 112 := by unfold letter; omega
theorem mark_byte (v k : Nat) (h : k < (mark v).size) : ((mark v)[k]'h).toNat = letter v k := by
  have h8 : k < 8 := by rw [mark_size] at h; exact h
  have e : (mark v)[k]'h = (mark v).data.toList[k]'(by simpa using h) := rfl
  rw [e]
  simp only [mark_data, List.getElem_map, List.getElem_range, UInt8.toNat_ofNat']
  have := letter_rng v k
  omega
/-- the number told by the first k letters -/
def told (v k : Nat) : Nat := v / 2 ^ (32 - 4 * k)
theorem told_step (v k : Nat) (hk : k < 8) : 16 * told v k + (letter v k - 97) = told v (k + 1) := by
  unfold told letter
  have e1 : 32 - 4 * k = (28 - 4 * k) + 4 := by omega
  have e2 : 32 - 4 * (k + 1) = 28 - 4 * k := by omega
  rw [e1, e2, Nat.pow_add, ← Nat.div_div_eq_div_mul]
  omega
theorem told_lt (v k : Nat) (hv : v < 4294967296) : told v k < 4294967296 := Nat.lt_of_le_of_lt (Nat.div_le_self _ _) hv

theorem told_zero (v : Nat) (hv : v < 4294967296) : Value.int .u32 0 = .int .u32 (told v 0 : Nat) := by
  have : told v 0 = 0 := by unfold told; exact Nat.div_eq_of_lt hv
  rw [this]; rfl
theorem u32_cong {a b : Int} (h : a = b) : Value.int .u32 a = .int .u32 b := by rw [h]
theorem told_end (v : Nat) : Ending.returned (Value.bool (((told v 8 : Nat) : Int) == (v : Int))) = .returned (.bool true) := by
  have : told v 8 = v := by unfold told; simp
  rw [this]; simp

set_option maxRecDepth 100000 in
theorem marks_any (F0 : World) (F : Facts F0) (v : Nat) (hv : v < 4294967296) (w : World) (hB : Below F0.heap.size F0 w) :
    Calls Tryd.prog 7 #[.int .u32 v] w fun e w' => e = .returned (.bool true) ∧ Below w.heap.size w w' := by
  have hnot : ∀ (x : Bool) (w : World), (Op.unary .not (.bool x)).run Tryd.prog w = .ok (.bool (!x)) w := fun _ _ => rfl
  have HB := Lib.hid hB; clear hB
  go_enter Tryd.func7, Tryd.ntmps7
  go_wp2_with fail
  refine (mark_any v hv _).mono ?_
  rintro e w1 ⟨rfl, hb1⟩
  have hB1 := HB.out.trans (hb1.mono HB.out.size)
  have HB1 := Lib.hid hb1; clear hb1
  have HC1 := Lib.hid hB1; clear hB1
  have hms : (mark v).size = 8 := mark_size v
  have hby := mark_byte v
  have hrng := letter_rng v
  obtain ⟨m, hm⟩ : ∃ m, mark v = m := ⟨_, rfl⟩
  rw [hm] at hms hby ⊢
  clear hm
  have HY := Lib.hid hby; clear hby
  have HR := Lib.hid hrng; clear hrng
  go_wp2_with fail
  refine (awake_any F0 F _ HC1.out).mono ?_
  rintro e w2 ⟨rfl, hb2⟩
  have HB2 := Lib.hid (below_then HB1.out hb2); clear hb2
  go_wp2
  go_loop [4, 5] (fun n i => ∃ k : Nat, k ≤ 8 ∧ i = .int .i64 k ∧ n = .int .u32 (told v k : Nat)) (fun _ i => 8 - (intOf i).toNat)
  case atStart => exact ⟨0, by omega, rfl, told_zero v hv⟩
  case round =>
    obtain ⟨k, hk, rfl, rfl⟩ := hrel
    have hl := told_lt v k hv
    by_cases hlt : k < 8
    · have hc : (m[k]'(by omega)).toNat = letter v k := HY.out k _
      have hr := HR.out k
      have hs := told_step v k hlt
      have HS := Lib.hid hs; clear hs
      obtain ⟨c, hcc⟩ : ∃ c, letter v k = c := ⟨_, rfl⟩
      rw [hcc] at hc hr
      have HCC := Lib.hid hcc; clear hcc
      obtain ⟨n, hn⟩ : ∃ n, told v k = n := ⟨_, rfl⟩
      rw [hn] at hl ⊢
      have HN := Lib.hid hn; clear hn
      go_wp2
      have hs := HS.out
      have hl2 := told_lt v (k + 1) hv
      rw [HCC.out, HN.out] at hs
      exact ⟨⟨k + 1, by omega, by go_num, u32_cong (by omega)⟩, by simp [intOf]; omega⟩
    · obtain rfl : k = 8 := by omega
      go_wp2
      go_ret
      exact ⟨told_end v, HB2.out⟩
end Go.Proofs.YtkkfoolflnpegaaDoor
