/- The walk of the anchor: it returns true. No condition of ours. -/
import Derived.Test.YtkkfoolflnpegaaDoorT
namespace Go.Proofs.YtkkfoolflnpegaaDoor
set_option linter.unusedVariables false
set_option linter.unusedSimpArgs false
open Go Go.RowKit

theorem tok7 : tok 7 = ⟨#[118, 55, 46, 105, 97, 97, 98, 103, 106, 105, 97]⟩ := by
  have e : Lib.decDigits 7 = [55] := by unfold Lib.decDigits; rw [dif_pos (by omega)]; rfl
  have h : (mark (crc [118, 55])).data.toList = [105, 97, 97, 98, 103, 106, 105, 97] := by decide +kernel
  unfold tok tokL headL
  rw [e, h]
  rfl
theorem mark_told : mark 3421780262 = ⟨#[109, 108, 112, 101, 100, 106, 99, 103]⟩ := by
  have h : (mark 3421780262).data.toList = [109, 108, 112, 101, 100, 106, 99, 103] := by decide +kernel
  exact ba_ext h
theorem get7 : getO (tok 7).data.toList = 7 := by
  have e : (tok 7).data.toList = tokL 7 := by simp [tok]
  rw [e]; exact getO_tok 7 (by omega) (by omega)

set_option maxRecDepth 100000 in
theorem awake_any (w0 : World) (F : Facts w0) (w : World) (hB : Below w0.heap.size w0 w) :
    Calls Tryd.prog 9 #[] w fun e w' => e = .returned (.bool true) ∧ Below w.heap.size w w' := by
  have HB := Lib.hid hB; clear hB
  go_enter Tryd.func9, Tryd.ntmps9
  go_wp2_with fail
  refine (new_any w).mono ?_
  rintro e w1 ⟨rfl, hs1, hb1⟩
  have hb0 : w0.heap.size ≤ w.heap.size := HB.out.size
  have hS1 : Summ w1 w.heap.size := ⟨0, .inl hs1⟩
  have hB1 := HB.out.trans (hb1.mono hb0)
  have HS1 := Lib.hid hS1; clear hS1 hs1
  have HB1 := Lib.hid hb1; clear hb1
  have HC1 := Lib.hid hB1; clear hB1
  have hput := put_ok w0 F w.heap.size hb0 w1 HC1.out HS1.out 7 (by omega) (by omega)
  go_wp2_with fail
  refine hput.mono ?_
  clear hput
  rintro e w2 ⟨rfl, hs2, hk2⟩
  have hb2 := Keep.below HB1.out (Nat.le_refl _) hk2
  have hB2 := HB.out.trans (hb2.mono hb0)
  have HS2 := Lib.hid hs2; clear hs2
  have HB2 := Lib.hid hb2; clear hb2 hk2
  have HC2 := Lib.hid hB2; clear hB2
  have hget := get_all w0 F w.heap.size hb0 w2 HC2.out HS2.out (tok 7) (by have := tok_size 7 (by omega); omega)
  go_wp2_with fail
  refine hget.mono ?_
  clear hget
  rintro e w3 ⟨rfl, hs3, hk3⟩
  rw [get7, show getE 7 = 0 from rfl]
  have hb3 := Keep.below HB2.out (Nat.le_refl _) hk3
  have HB3 := Lib.hid hb3; clear hb3 hk3 hs3
  rw [tok7]
  go_wp2_with fail
  refine (mark_any 3421780262 (by omega) _).mono ?_
  rintro e w4 ⟨rfl, hb4⟩
  rw [mark_told]
  have HB4 := Lib.hid hb4; clear hb4
  have hpre : ((⟨#[118, 55, 46, 105, 97, 97, 98, 103, 106, 105, 97]⟩ : ByteArray).extract 0 3).toList = [118, 55, 46] := by
    rw [ByteArray.toList_eq]; decide +kernel
  go_wp2
  go_ret
  exact ⟨rfl, below_then HB3.out HB4.out⟩
end Go.Proofs.YtkkfoolflnpegaaDoor
