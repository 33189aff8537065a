/- The walk of the reference's Put. No condition of ours. -/
import Derived.Test.YtkkfoolflnpegaaDoorR1
import Derived.Test.YtkkfoolflnpegaaDoorR4
import Derived.Test.YtkkfoolflnpegaaDoorT
namespace Go.Proofs.YtkkfoolflnpegaaDoor
set_option linter.unusedVariables false
set_option linter.unusedSimpArgs false
open Go Go.RowKit

theorem tok_eq2 (v : Nat) (d : ByteArray) (q : Nat) (m : ByteArray) (hd : (⟨(Lib.decDigits v).toArray⟩ : ByteArray) = d) (hq : refCrc (⟨#[118]⟩ ++ d : ByteArray) = q) (hm : mark q = m) :
    (⟨#[118]⟩ ++ d ++ ⟨#[46]⟩ ++ m : ByteArray) = tok v := by
  rw [ref_crc] at hq
  exact tok_eq v d q m (by rw [itoa_nat]; exact hd) hq hm
theorem refCrc_lt (s : ByteArray) : refCrc s < 4294967296 := by rw [ref_crc]; exact crc_lt _

set_option maxRecDepth 100000 in
theorem rput_any (v : Nat) (h1 : 1 ≤ v) (h2 : v ≤ 4294967295) (w : World) :
    Calls Tryd.prog 14 #[.int .i64 v] w fun e w' => e = .returned (.string (tok v)) ∧ Below w.heap.size w w' := by
  go_enter Tryd.func14, Tryd.ntmps14
  go_wp2_with fail
  refine (rdigits_any v h1 h2 w).mono ?_
  rintro e w1 ⟨rfl, hb1⟩
  have HB1 := Lib.hid hb1; clear hb1
  obtain ⟨d, hd⟩ : ∃ d : ByteArray, (⟨(Lib.decDigits v).toArray⟩ : ByteArray) = d := ⟨_, rfl⟩
  have hdl : d.size ≤ 20 := by rw [← hd, ← itoa_nat]; exact itoa_size v h2
  rw [hd]
  have HD := Lib.hid hd; clear hd
  have a1 : (⟨#[118]⟩ ++ d : ByteArray).size ≤ 1000 := by rw [ByteArray.size_append]; have : (⟨#[118]⟩ : ByteArray).size = 1 := rfl; omega
  have hof := rof_any (⟨#[118]⟩ ++ d : ByteArray) a1 w1
  have hql := refCrc_lt (⟨#[118]⟩ ++ d : ByteArray)
  clear a1
  go_wp2_with fail
  refine hof.mono ?_
  clear hof
  rintro e w2 ⟨rfl, hb2⟩
  have HB2 := Lib.hid (below_then HB1.out hb2); clear hb2
  obtain ⟨q, hq⟩ : ∃ q, refCrc (⟨#[118]⟩ ++ d : ByteArray) = q := ⟨_, rfl⟩
  rw [hq] at hql ⊢
  have HQ := Lib.hid hq; clear hq
  go_wp2_with fail
  refine (rmark_any q hql _).mono ?_
  rintro e w3 ⟨rfl, hb3⟩
  have HB3 := Lib.hid (below_then HB2.out hb3); clear hb3
  have hms : (mark q).size = 8 := mark_size q
  obtain ⟨m, hm⟩ : ∃ m, mark q = m := ⟨_, rfl⟩
  rw [hm] at hms ⊢
  have HM := Lib.hid hm; clear hm
  go_wp2
  go_ret
  have ht := tok_eq2 v d q m HD.out HQ.out HM.out
  exact ⟨by rw [← ht]; rfl, HB3.out⟩
end Go.Proofs.YtkkfoolflnpegaaDoor
