/- The walk of the law that a version's token is the reference's, and the version again. No condition of ours. -/
import Derived.Test.YtkkfoolflnpegaaDoorLA
import Derived.Test.YtkkfoolflnpegaaDoorR5
namespace Go.Proofs.YtkkfoolflnpegaaDoor
set_option linter.unusedVariables false
set_option linter.unusedSimpArgs false
open Go Go.RowKit

set_option maxRecDepth 100000 in
set_option maxHeartbeats 1600000 in
theorem puts_any (F0 : World) (F : Facts F0) (v : Int) (hlo : -9223372036854775808 ≤ v) (hhi : v ≤ 9223372036854775807) (x : Nat) (hx : x < 4294967296) (w : World) (hB : Below F0.heap.size F0 w) :
    Calls Tryd.prog 3 #[.int .i64 v, .int .u32 x] w fun e w' => e = .returned (.bool true) ∧ Below w.heap.size w w' := by
  have HB := Lib.hid hB; clear hB
  have hb0 : F0.heap.size ≤ w.heap.size := HB.out.size
  go_enter Tryd.func3, Tryd.ntmps3
  go_wp2_with fail
  refine (new_any w).mono ?_
  rintro e w1 ⟨rfl, hs1, hb1⟩
  have hS1 : Summ w1 w.heap.size := ⟨0, .inl hs1⟩
  have HS1 := Lib.hid hS1; clear hS1 hs1
  have HB1 := Lib.hid hb1; clear hb1
  go_wp2_with fail
  refine (awake_any F0 F _ (HB.out.trans (HB1.out.mono hb0))).mono ?_
  rintro e w2 ⟨rfl, hb2⟩
  have HS2 := Lib.hid (HS1.out.below hb2)
  have HB2 := Lib.hid (below_then HB1.out hb2); clear hb2
  clear HS1 HB1
  by_cases hin : 1 ≤ v ∧ v ≤ 4294967295
  · obtain ⟨n, rfl⟩ := Int.eq_ofNat_of_zero_le (show 0 ≤ v by omega)
    have h1 : 1 ≤ n := by omega
    have h2 : n ≤ 4294967295 := by omega
    clear hin hlo hhi
    have hput := put_ok F0 F w.heap.size hb0 w2 (HB.out.trans (HB2.out.mono hb0)) HS2.out n h1 h2
    go_wp2_with fail
    refine hput.mono ?_
    clear hput
    rintro e w3 ⟨rfl, hs3, hk3⟩
    have HS3 := Lib.hid hs3; clear hs3
    have HB3 := Lib.hid (Keep.below HB2.out (Nat.le_refl _) hk3); clear hk3
    clear HS2 HB2
    have a1 : (tok n).size ≤ 1000 := by have := tok_size n h2; omega
    have hget := get_all F0 F w.heap.size hb0 w3 (HB.out.trans (HB3.out.mono hb0)) HS3.out (tok n) a1
    rw [show (tok n).data.toList = tokL n by simp [tok], getO_tok n h1 h2, show getE n = 0 from if_neg (by omega)] at hget
    have hrp := fun w => rput_any n h1 h2 w
    obtain ⟨t, ht⟩ : ∃ t, tok n = t := ⟨_, rfl⟩
    rw [ht] at a1 hget hrp ⊢
    clear ht
    go_wp2_with fail
    refine hget.mono ?_
    clear hget
    rintro e w4 ⟨rfl, hs4, hk4⟩
    have HB4 := Lib.hid (Keep.below HB3.out (Nat.le_refl _) hk4); clear hk4 hs4 HS3 HB3
    go_wp2_with fail
    refine (hrp w4).mono ?_
    clear hrp
    rintro e w5 ⟨rfl, hb5⟩
    have HB5 := Lib.hid (below_then HB4.out hb5); clear hb5 HB4
    go_wp2_with fail
    refine (mark_any x hx _).mono ?_
    rintro e w6 ⟨rfl, hb6⟩
    have HB6 := Lib.hid (below_then HB5.out hb6); clear hb6 HB5
    go_wp2_with fail
    refine (rmark_any x hx _).mono ?_
    rintro e w7 ⟨rfl, hb7⟩
    have HB7 := Lib.hid (below_then HB6.out hb7); clear hb7 HB6
    go_wp2
    go_ret
    exact ⟨rfl, HB7.out⟩
  · have hout : v < 1 ∨ 4294967295 < v := by omega
    clear hin
    have hput := put_bad ⟨w.heap.size, 0, none⟩ w2 v hout
    go_wp2_with fail
    refine hput.mono ?_
    clear hput
    rintro e w3 ⟨rfl, rfl⟩
    rcases hout with h | h
    · go_wp2_with fail
      refine (mark_any x hx _).mono ?_
      rintro e w6 ⟨rfl, hb6⟩
      have HB6 := Lib.hid (below_then HB2.out hb6); clear hb6 HB2
      go_wp2_with fail
      refine (rmark_any x hx _).mono ?_
      rintro e w7 ⟨rfl, hb7⟩
      have HB7 := Lib.hid (below_then HB6.out hb7); clear hb7 HB6
      go_wp2
      go_ret
      exact ⟨rfl, HB7.out⟩
    · have h' : ¬ v < 1 := by omega
      go_wp2_with fail
      refine (mark_any x hx _).mono ?_
      rintro e w6 ⟨rfl, hb6⟩
      have HB6 := Lib.hid (below_then HB2.out hb6); clear hb6 HB2
      go_wp2_with fail
      refine (rmark_any x hx _).mono ?_
      rintro e w7 ⟨rfl, hb7⟩
      have HB7 := Lib.hid (below_then HB6.out hb7); clear hb7 HB6
      go_wp2
      go_ret
      exact ⟨rfl, HB7.out⟩
end Go.Proofs.YtkkfoolflnpegaaDoor
