/- The walk of the law that two versions have two tokens, two numbers two marks. No condition of ours. -/
import Derived.Test.YtkkfoolflnpegaaDoorW0
import Derived.Test.YtkkfoolflnpegaaDoorLM
namespace Go.Proofs.YtkkfoolflnpegaaDoor
set_option linter.unusedVariables false
set_option linter.unusedSimpArgs false
open Go Go.RowKit

/-- what Put answers: the text and the number beside it -/
def putT (v : Nat) : ByteArray := if v = 0 then ⟨#[]⟩ else tok v
def putE (v : Nat) : Int := if v = 0 then 160 else 0

theorem put_u32 (w0 : World) (F : Facts w0) (b : Nat) (hb0 : w0.heap.size ≤ b) (w : World) (hB : Below w0.heap.size w0 w) (hs : Summ w b) (v : Nat) (h2 : v ≤ 4294967295) :
    Calls Tryd.prog 10 #[.pointer (some ⟨b, 0, none⟩), .int .i64 v] w fun e w' => e = .returned (.tuple #[.string (putT v), .int .i64 (putE v)]) ∧ Summ w' b ∧ Keep b w w' := by
  unfold putT putE
  by_cases h : v = 0
  · subst h
    rw [if_pos rfl, if_pos rfl]
    exact (put_bad ⟨b, 0, none⟩ w 0 (by omega)).mono fun e w' ⟨h1, h2⟩ => ⟨h1, h2 ▸ hs, h2 ▸ Keep.refl _ _⟩
  · rw [if_neg h, if_neg h]
    exact put_ok w0 F b hb0 w hB hs v (by omega) h2

theorem told_inj (a b : Nat) (ha : a < 4294967296) (hb : b < 4294967296) (h : mark a = mark b) : a = b := by
  have hl : ∀ i, i < 8 → letter a i = letter b i := by
    intro i hi
    have e := congrArg (fun m : ByteArray => m.data.toList[i]?) h
    simp only [mark_data] at e
    simp only [List.getElem?_map, List.getElem?_range hi, Option.map_some, Option.some.injEq] at e
    have e2 := congrArg UInt8.toNat e
    simp only [UInt8.toNat_ofNat'] at e2
    have h1 := letter_rng a i
    have h2 := letter_rng b i
    omega
  have hk : ∀ k, k ≤ 8 → told a k = told b k := by
    intro k
    induction k with
    | zero => intro _; unfold told; rw [Nat.div_eq_of_lt ha, Nat.div_eq_of_lt hb]
    | succ k ih => intro hk; rw [← told_step a k (by omega), ← told_step b k (by omega), ih (by omega), hl k (by omega)]
  simpa [told] using hk 8 (by omega)

theorem putT_ne (x y : Nat) (hx : x ≤ 4294967295) (hy : y ≤ 4294967295) (h0 : x ≠ 0) (h1 : y ≠ 0) (h : x ≠ y) : ((putT x).toList == (putT y).toList) = false := by
  apply ba_ne
  unfold putT
  rw [if_neg h0, if_neg h1]
  intro e
  exact h (tok_inj x y (by omega) hx (by omega) hy (by simpa [tok] using e))

set_option maxRecDepth 100000 in
set_option maxHeartbeats 1600000 in
theorem apart_any (F0 : World) (F : Facts F0) (x y : Nat) (hx : x < 4294967296) (hy : y < 4294967296) (w : World) (hB : Below F0.heap.size F0 w) :
    Calls Tryd.prog 6 #[.int .u32 x, .int .u32 y] w fun e w' => e = .returned (.bool true) ∧ Below w.heap.size w w' := by
  have hnot : ∀ (x : Bool) (w : World), (Op.unary .not (.bool x)).run Tryd.prog w = .ok (.bool (!x)) w := fun _ _ => rfl
  have HB := Lib.hid hB; clear hB
  go_enter Tryd.func6, Tryd.ntmps6
  go_wp2_with fail
  refine (new_any w).mono ?_
  rintro e w1 ⟨rfl, hs1, hb1⟩
  have hb0 : F0.heap.size ≤ w.heap.size := HB.out.size
  have hS1 : Summ w1 w.heap.size := ⟨0, .inl hs1⟩
  have hB1 := HB.out.trans (hb1.mono hb0)
  have HS1 := Lib.hid hS1; clear hS1 hs1
  have HB1 := Lib.hid hb1; clear hb1
  have HC1 := Lib.hid hB1; clear hB1
  go_wp2_with fail
  refine (awake_any F0 F _ HC1.out).mono ?_
  rintro e w2 ⟨rfl, hb2⟩
  have HS2 := Lib.hid (HS1.out.below hb2)
  have HB2 := Lib.hid (below_then HB1.out hb2); clear hb2
  have HC2 := Lib.hid (HB.out.trans (HB2.out.mono hb0))
  clear HS1 HB1 HC1
  have hput := put_u32 F0 F w.heap.size hb0 w2 HC2.out HS2.out x (by omega)
  go_wp2_with fail
  refine hput.mono ?_
  clear hput
  rintro e w3 ⟨rfl, hs3, hk3⟩
  have HS3 := Lib.hid hs3; clear hs3
  have HB3 := Lib.hid (Keep.below HB2.out (Nat.le_refl _) hk3); clear hk3
  have HC3 := Lib.hid (HB.out.trans (HB3.out.mono hb0))
  clear HS2 HB2 HC2
  have hput := put_u32 F0 F w.heap.size hb0 w3 HC3.out HS3.out y (by omega)
  go_wp2_with fail
  refine hput.mono ?_
  clear hput
  rintro e w4 ⟨rfl, hs4, hk4⟩
  have HB4 := Lib.hid (Keep.below HB3.out (Nat.le_refl _) hk4); clear hk4 hs4
  clear HS3 HB3 HC3
  have hms : (mark x).size = 8 := mark_size x
  by_cases hxy : x = y
  · subst hxy
    by_cases h0 : x = 0
    · have e1 : putE x = 160 := if_pos h0
      replace h0 : x ≤ 0 := by omega
      have e2 : decide (0 < (x : Int)) = false := by simp; omega
      have e2n : decide (0 < x) = false := by simp; omega
      go_wp2_with (first | (go_at_call 11; (with_reducible refine (mark_any x hx _).mono ?_); rintro e w' ⟨rfl, hb⟩; have HN := Lib.hid (below_then HB4.out hb); clear hb HB4; have HB4 := HN; clear HN))
      go_ret
      exact ⟨rfl, HB4.out⟩
    · have e1 : putE x = 0 := if_neg h0
      have e2 : decide (0 < (x : Int)) = true := by simp; omega
      have e2n : decide (0 < x) = true := by simp; omega
      go_wp2_with (first | (go_at_call 11; (with_reducible refine (mark_any x hx _).mono ?_); rintro e w' ⟨rfl, hb⟩; have HN := Lib.hid (below_then HB4.out hb); clear hb HB4; have HB4 := HN; clear HN))
      go_ret
      exact ⟨rfl, HB4.out⟩
  · have hn : ((x : Int) == (y : Int)) = false := by simp; omega
    have hm : ((mark x).toList == (mark y).toList) = false := ba_ne (fun h => hxy (told_inj x y hx hy h))
    by_cases h0 : x = 0
    · by_cases h1 : y = 0
      · exact absurd (h0.trans h1.symm) hxy
      · have e1 : putE x = 160 := if_pos h0
        replace h0 : x ≤ 0 := by omega
        have e2 : decide (0 < (x : Int)) = false := by simp; omega
        have e2n : decide (0 < x) = false := by simp; omega
        have e3 : putE y = 0 := if_neg h1
        have e4 : decide (0 < (y : Int)) = true := by simp; omega
        have e4n : decide (0 < y) = true := by simp; omega
        go_wp2_with (first | (go_at_call 11; (with_reducible refine (mark_any x hx _).mono ?_); rintro e w' ⟨rfl, hb⟩; have HN := Lib.hid (below_then HB4.out hb); clear hb HB4; have HB4 := HN; clear HN) | (go_at_call 11; (with_reducible refine (mark_any y hy _).mono ?_); rintro e w' ⟨rfl, hb⟩; have HN := Lib.hid (below_then HB4.out hb); clear hb HB4; have HB4 := HN; clear HN))
        go_ret
        exact ⟨rfl, HB4.out⟩
    · by_cases h1 : y = 0
      · have e1 : putE x = 0 := if_neg h0
        have e2 : decide (0 < (x : Int)) = true := by simp; omega
        have e2n : decide (0 < x) = true := by simp; omega
        have e3 : putE y = 160 := if_pos h1
        replace h1 : y ≤ 0 := by omega
        have e4 : decide (0 < (y : Int)) = false := by simp; omega
        have e4n : decide (0 < y) = false := by simp; omega
        go_wp2_with (first | (go_at_call 11; (with_reducible refine (mark_any x hx _).mono ?_); rintro e w' ⟨rfl, hb⟩; have HN := Lib.hid (below_then HB4.out hb); clear hb HB4; have HB4 := HN; clear HN) | (go_at_call 11; (with_reducible refine (mark_any y hy _).mono ?_); rintro e w' ⟨rfl, hb⟩; have HN := Lib.hid (below_then HB4.out hb); clear hb HB4; have HB4 := HN; clear HN))
        go_ret
        exact ⟨rfl, HB4.out⟩
      · have e1 : putE x = 0 := if_neg h0
        have e2 : decide (0 < (x : Int)) = true := by simp; omega
        have e2n : decide (0 < x) = true := by simp; omega
        have e3 : putE y = 0 := if_neg h1
        have e4 : decide (0 < (y : Int)) = true := by simp; omega
        have e4n : decide (0 < y) = true := by simp; omega
        have e5 := putT_ne x y (by omega) (by omega) h0 h1 hxy
        go_wp2_with (first | (go_at_call 11; (with_reducible refine (mark_any x hx _).mono ?_); rintro e w' ⟨rfl, hb⟩; have HN := Lib.hid (below_then HB4.out hb); clear hb HB4; have HB4 := HN; clear HN) | (go_at_call 11; (with_reducible refine (mark_any y hy _).mono ?_); rintro e w' ⟨rfl, hb⟩; have HN := Lib.hid (below_then HB4.out hb); clear hb HB4; have HB4 := HN; clear HN))
        go_ret
        exact ⟨rfl, HB4.out⟩
end Go.Proofs.YtkkfoolflnpegaaDoor
