/- The walk of the law that a version that is got of a text has this text as its token. No condition of ours. -/
import Derived.Test.YtkkfoolflnpegaaDoorLA
import Derived.Test.YtkkfoolflnpegaaDoorR5
namespace Go.Proofs.YtkkfoolflnpegaaDoor
set_option linter.unusedVariables false
set_option linter.unusedSimpArgs false
open Go Go.RowKit

theorem tok_of_get {t : ByteArray} (h : getO t.data.toList ≠ 0) : tok (getO t.data.toList) = t := (tok_iff _ t).2 (getO_spec h).2.2

set_option maxRecDepth 100000 in
set_option maxHeartbeats 1600000 in
theorem gets_any (F0 : World) (F : Facts F0) (t : ByteArray) (w : World) (hB : Below F0.heap.size F0 w) :
    Calls Tryd.prog 4 #[.string t] w fun e w' => e = .returned (.bool true) ∧ Below w.heap.size w w' := by
  have HB := Lib.hid hB; clear hB
  have hb0 : F0.heap.size ≤ w.heap.size := HB.out.size
  by_cases hlen : 300 < t.size
  · go_enter Tryd.func4, Tryd.ntmps4
    go_wp2_with fail
    refine (new_any w).mono ?_
    rintro e w1 ⟨rfl, hs1, hb1⟩
    have HB1 := Lib.hid hb1; clear hb1 hs1
    go_wp2_with fail
    refine (awake_any F0 F _ (HB.out.trans (HB1.out.mono HB.out.size))).mono ?_
    rintro e w2 ⟨rfl, hb2⟩
    have HB2 := Lib.hid (below_then HB1.out hb2); clear hb2
    go_wp2_with fail
    refine (awake_any F0 F _ (HB.out.trans (HB2.out.mono HB.out.size))).mono ?_
    rintro e w3 ⟨rfl, hb3⟩
    have HB3 := Lib.hid (below_then HB2.out hb3); clear hb3
    go_wp2
    go_ret
    exact ⟨rfl, HB3.out⟩
  · have hlen' : t.size ≤ 300 := by omega
    clear hlen
    go_enter Tryd.func4, Tryd.ntmps4
    go_wp2_with fail
    refine (new_any w).mono ?_
    rintro e w1 ⟨rfl, hs1, hb1⟩
    have hS1 : Summ w1 w.heap.size := ⟨0, .inl hs1⟩
    have HS1 := Lib.hid hS1; clear hS1 hs1
    have HB1 := Lib.hid hb1; clear hb1
    go_wp2_with fail
    refine (awake_any F0 F _ (HB.out.trans (HB1.out.mono hb0))).mono ?_
    rintro e w2 ⟨rfl, hb2⟩
    have HS2 := Lib.hid (HS1.out.below hb2)
    have HB2 := Lib.hid (below_then HB1.out hb2); clear hb2
    clear HS1 HB1
    have hget := get_all F0 F w.heap.size hb0 _ (HB.out.trans (HB2.out.mono hb0)) HS2.out t (by omega)
    go_wp2_with fail
    refine hget.mono ?_
    clear hget
    rintro e w3 ⟨rfl, hs3, hk3⟩
    have HB3 := Lib.hid (Keep.below HB2.out (Nat.le_refl _) hk3); clear hk3 hs3
    clear HS2 HB2
    by_cases hz : getO t.data.toList = 0
    · rw [hz, show getE 0 = 160 from rfl]
      go_wp2
      go_ret
      exact ⟨rfl, HB3.out⟩
    · obtain ⟨h1, h2, _⟩ := getO_spec hz
      have ht := tok_of_get hz
      obtain ⟨n, hn⟩ : ∃ n, getO t.data.toList = n := ⟨_, rfl⟩
      rw [hn] at h1 h2 ht ⊢
      rw [show getE n = 0 from if_neg (by omega)]
      have HT := Lib.hid ht; clear ht hz hn
      have hput := rput_any n h1 h2 w3
      rw [HT.out] at hput
      go_wp2_with fail
      refine hput.mono ?_
      clear hput
      rintro e w4 ⟨rfl, hb4⟩
      have HB4 := Lib.hid (below_then HB3.out hb4); clear hb4
      go_wp2
      go_ret
      exact ⟨rfl, HB4.out⟩
end Go.Proofs.YtkkfoolflnpegaaDoor
