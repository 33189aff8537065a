/- Walks of the reference, cut out of what print.sh wrote for the laws of this seat. No condition of ours. -/
import Derived.Test.YtbdoafigggcdpaaGreatDoorVK0
namespace Go.Proofs.YtbdoafigggcdpaaGreatDoor.PScr
open Go.RowKit Go.Proofs.YtbdoafigggcdpaaGreatDoorW.PrintWords Go.Proofs.YtbdoafigggcdpaaGreatDoorW.PrintLast Go.Proofs.YtbdoafigggcdpaaGreatDoorW.PrintMore
attribute [local go_sem] max2_int min2_int max_two min_two max_three min_three max_four min_four
set_option linter.unusedVariables false
set_option linter.unusedSimpArgs false
/-! ### lunetteref20_numbers: function 31 -/
mutual
def lunetteref20_numbers.j0 : Nat → ByteArray → Bool → Option (Int)
  | 0, _, _ => none
  | k + 1, x3, x4 => if x4 = true then (some 2) else (if x3.toList = ([112, 105, 110] : List UInt8) then (lunetteref20_numbers.j1 k x3 (x3.toList == ([112, 105, 110] : List UInt8))) else (if x3.toList = ([117, 110, 112, 105, 110] : List UInt8) then (lunetteref20_numbers.j1 k x3 (x3.toList == ([117, 110, 112, 105, 110] : List UInt8))) else (lunetteref20_numbers.j1 k x3 (x3.toList == ([102, 117, 115, 101] : List UInt8)))))
def lunetteref20_numbers.j1 : Nat → ByteArray → Bool → Option (Int)
  | 0, _, _ => none
  | k + 1, x3, x11 => if x11 = true then (some 1) else (if x3.toList = ([115, 112, 111, 105, 108] : List UInt8) then (some 3) else (if x3.toList = ([99, 114, 97, 115, 104] : List UInt8) then (some 9) else (if x3.toList = ([117, 112, 100, 97, 116, 101] : List UInt8) then (some 0) else (if x3.toList = ([110, 111, 119] : List UInt8) then (some 0) else (if x3.toList = ([115, 99, 114, 117, 98] : List UInt8) then (some 0) else (if x3.toList = ([111, 112, 101, 110] : List UInt8) then (some 0) else (if x3.toList = ([114, 117, 108, 101, 115] : List UInt8) then (some 0) else (some (-1)))))))))
end
def lunetteref20_numbers.f (k : Nat) (a0 : ByteArray) : Option (Int) := if a0.toList = ([99, 104, 101, 99, 107] : List UInt8) then (lunetteref20_numbers.j0 k a0 (a0.toList == ([99, 104, 101, 99, 107] : List UInt8))) else (if a0.toList = ([101, 120, 112, 97, 110, 100] : List UInt8) then (lunetteref20_numbers.j0 k a0 (a0.toList == ([101, 120, 112, 97, 110, 100] : List UInt8))) else (if a0.toList = ([115, 117, 98, 106, 101, 99, 116, 115] : List UInt8) then (lunetteref20_numbers.j0 k a0 (a0.toList == ([115, 117, 98, 106, 101, 99, 116, 115] : List UInt8))) else (if a0.toList = ([111, 98, 106, 101, 99, 116, 115] : List UInt8) then (lunetteref20_numbers.j0 k a0 (a0.toList == ([111, 98, 106, 101, 99, 116, 115] : List UInt8))) else (if a0.toList = ([114, 101, 97, 100] : List UInt8) then (lunetteref20_numbers.j0 k a0 (a0.toList == ([114, 101, 97, 100] : List UInt8))) else (lunetteref20_numbers.j0 k a0 (a0.toList == ([108, 111, 103] : List UInt8)))))))
theorem lunetteref20_numbers.mono_l : ∀ k, (∀ y0 y1, LeO (lunetteref20_numbers.j0 k y0 y1) (lunetteref20_numbers.j0 (k + 1) y0 y1)) ∧ (∀ y0 y1, LeO (lunetteref20_numbers.j1 k y0 y1) (lunetteref20_numbers.j1 (k + 1) y0 y1))
  | 0 => ⟨fun _ _ r h => by simp [lunetteref20_numbers.j0] at h, fun _ _ r h => by simp [lunetteref20_numbers.j1] at h⟩
  | k + 1 => by
    obtain ⟨ih0, ih1⟩ := lunetteref20_numbers.mono_l k
    refine ⟨?_, ?_⟩
    · intro y0 y1
      unfold lunetteref20_numbers.j0
      repeat' first
      | (with_reducible exact ih0 _ _)
      | (with_reducible exact ih1 _ _)
      | (with_reducible exact LeO.refl _)
      | (with_reducible exact LeO.none _)
      | (with_reducible refine LeO.ite ?_ ?_)
      | (with_reducible refine LeO.bind ?_ (fun _ => ?_))
      | exact ih0 _ _
      | exact ih1 _ _
      | exact LeO.none _
      | refine LeO.ite ?_ ?_
      | refine LeO.bind ?_ (fun _ => ?_)
    · intro y0 y1
      unfold lunetteref20_numbers.j1
      repeat' first
      | (with_reducible exact ih0 _ _)
      | (with_reducible exact ih1 _ _)
      | (with_reducible exact LeO.refl _)
      | (with_reducible exact LeO.none _)
      | (with_reducible refine LeO.ite ?_ ?_)
      | (with_reducible refine LeO.bind ?_ (fun _ => ?_))
      | exact ih0 _ _
      | exact ih1 _ _
      | exact LeO.none _
      | refine LeO.ite ?_ ?_
      | refine LeO.bind ?_ (fun _ => ?_)
theorem lunetteref20_numbers.mono : ∀ a0 k, LeO (lunetteref20_numbers.f k a0) (lunetteref20_numbers.f (k + 1) a0) := by
  intro a0 k
  obtain ⟨ih0, ih1⟩ := lunetteref20_numbers.mono_l k
  unfold lunetteref20_numbers.f
  repeat' first
      | (with_reducible exact ih0 _ _)
      | (with_reducible exact ih1 _ _)
      | (with_reducible exact LeO.refl _)
      | (with_reducible exact LeO.none _)
      | (with_reducible refine LeO.ite ?_ ?_)
      | (with_reducible refine LeO.bind ?_ (fun _ => ?_))
      | exact ih0 _ _
      | exact ih1 _ _
      | exact LeO.none _
      | refine LeO.ite ?_ ?_
      | refine LeO.bind ?_ (fun _ => ?_)
set_option maxHeartbeats 8000000 in
set_option maxRecDepth 100000 in
theorem lunetteref20_numbers.calls (k : Nat) (a0 : ByteArray) (r : Int) (w : World) (h : lunetteref20_numbers.f k a0 = some r) :
    Calls Tryz.prog 31 #[.string a0] w fun e w' => e = .returned (.int .i64 r) ∧ Drawn0 w w' := by
  have H : (if a0.toList = ([99, 104, 101, 99, 107] : List UInt8) then (lunetteref20_numbers.j0 k a0 (a0.toList == ([99, 104, 101, 99, 107] : List UInt8))) else (if a0.toList = ([101, 120, 112, 97, 110, 100] : List UInt8) then (lunetteref20_numbers.j0 k a0 (a0.toList == ([101, 120, 112, 97, 110, 100] : List UInt8))) else (if a0.toList = ([115, 117, 98, 106, 101, 99, 116, 115] : List UInt8) then (lunetteref20_numbers.j0 k a0 (a0.toList == ([115, 117, 98, 106, 101, 99, 116, 115] : List UInt8))) else (if a0.toList = ([111, 98, 106, 101, 99, 116, 115] : List UInt8) then (lunetteref20_numbers.j0 k a0 (a0.toList == ([111, 98, 106, 101, 99, 116, 115] : List UInt8))) else (if a0.toList = ([114, 101, 97, 100] : List UInt8) then (lunetteref20_numbers.j0 k a0 (a0.toList == ([114, 101, 97, 100] : List UInt8))) else (lunetteref20_numbers.j0 k a0 (a0.toList == ([108, 111, 103] : List UInt8)))))))) = some r := h
  clear h
  have HC2 := Aside0.mk H
  clear H
  go_enter Tryz.func31, Tryz.ntmps31
  go_upto_if 4 with (fail)
  go_cut [4] (fun v4 wc => ∃ (kq : Nat) (x4_1 : Bool), v4 = .bool x4_1 ∧ Aside0 (lunetteref20_numbers.j0 kq a0 x4_1 = some r) ∧ Aside0 (kq ≤ k) ∧ Drawn0 w wc)
  case first =>
    have H := HC2.out
    clear HC2
    by_cases c3 : a0.toList = ([99, 104, 101, 99, 107] : List UInt8)
    · rw [if_pos c3] at H
      have c3b0 : (a0.toList == ([99, 104, 101, 99, 107] : List UInt8)) = true := beq_iff_eq.mpr c3
      have c3b1 : (a0.toList != ([99, 104, 101, 99, 107] : List UInt8)) = false := bne_eq_false_iff_eq.mpr c3
      clear c3
      (first | rw [c3b0] | (simp only [i64_w, i32_w]; rw [c3b0]) | skip)
      have H' := Aside0.mk H
      clear H
      go_wp2
      go_meet
      case rel => exact ⟨_, ((a0.toList == ([99, 104, 101, 99, 107] : List UInt8))), (by first | rfl | (simp; done) | (simp [*]; done)), H', ⟨by first | omega | exact Nat.le_refl _⟩, by repeat (first | exact Drawn0.refl _ | apply Drawn0.step)⟩
    · rw [if_neg c3] at H
      have c3b0 : (a0.toList == ([99, 104, 101, 99, 107] : List UInt8)) = false := beq_eq_false_iff_ne.mpr c3
      have c3b1 : (a0.toList != ([99, 104, 101, 99, 107] : List UInt8)) = true := bne_iff_ne.mpr c3
      (first | rw [c3b0] | (simp only [i64_w, i32_w]; rw [c3b0]) | skip)
      by_cases c4 : a0.toList = ([101, 120, 112, 97, 110, 100] : List UInt8)
      · rw [if_pos c4] at H
        have c4b0 : (a0.toList == ([101, 120, 112, 97, 110, 100] : List UInt8)) = true := beq_iff_eq.mpr c4
        have c4b1 : (a0.toList != ([101, 120, 112, 97, 110, 100] : List UInt8)) = false := bne_eq_false_iff_eq.mpr c4
        clear c4
        have H' := Aside0.mk H
        clear H
        go_wp2
        go_meet
        case rel => exact ⟨_, ((a0.toList == ([101, 120, 112, 97, 110, 100] : List UInt8))), (by first | rfl | (simp; done) | (simp [*]; done)), H', ⟨by first | omega | exact Nat.le_refl _⟩, by repeat (first | exact Drawn0.refl _ | apply Drawn0.step)⟩
      · rw [if_neg c4] at H
        have c4b0 : (a0.toList == ([101, 120, 112, 97, 110, 100] : List UInt8)) = false := beq_eq_false_iff_ne.mpr c4
        have c4b1 : (a0.toList != ([101, 120, 112, 97, 110, 100] : List UInt8)) = true := bne_iff_ne.mpr c4
        by_cases c5 : a0.toList = ([115, 117, 98, 106, 101, 99, 116, 115] : List UInt8)
        · rw [if_pos c5] at H
          have c5b0 : (a0.toList == ([115, 117, 98, 106, 101, 99, 116, 115] : List UInt8)) = true := beq_iff_eq.mpr c5
          have c5b1 : (a0.toList != ([115, 117, 98, 106, 101, 99, 116, 115] : List UInt8)) = false := bne_eq_false_iff_eq.mpr c5
          clear c5
          have H' := Aside0.mk H
          clear H
          go_wp2
          go_meet
          case rel => exact ⟨_, ((a0.toList == ([115, 117, 98, 106, 101, 99, 116, 115] : List UInt8))), (by first | rfl | (simp; done) | (simp [*]; done)), H', ⟨by first | omega | exact Nat.le_refl _⟩, by repeat (first | exact Drawn0.refl _ | apply Drawn0.step)⟩
        · rw [if_neg c5] at H
          have c5b0 : (a0.toList == ([115, 117, 98, 106, 101, 99, 116, 115] : List UInt8)) = false := beq_eq_false_iff_ne.mpr c5
          have c5b1 : (a0.toList != ([115, 117, 98, 106, 101, 99, 116, 115] : List UInt8)) = true := bne_iff_ne.mpr c5
          by_cases c6 : a0.toList = ([111, 98, 106, 101, 99, 116, 115] : List UInt8)
          · rw [if_pos c6] at H
            have c6b0 : (a0.toList == ([111, 98, 106, 101, 99, 116, 115] : List UInt8)) = true := beq_iff_eq.mpr c6
            have c6b1 : (a0.toList != ([111, 98, 106, 101, 99, 116, 115] : List UInt8)) = false := bne_eq_false_iff_eq.mpr c6
            clear c6
            have H' := Aside0.mk H
            clear H
            go_wp2
            go_meet
            case rel => exact ⟨_, ((a0.toList == ([111, 98, 106, 101, 99, 116, 115] : List UInt8))), (by first | rfl | (simp; done) | (simp [*]; done)), H', ⟨by first | omega | exact Nat.le_refl _⟩, by repeat (first | exact Drawn0.refl _ | apply Drawn0.step)⟩
          · rw [if_neg c6] at H
            have c6b0 : (a0.toList == ([111, 98, 106, 101, 99, 116, 115] : List UInt8)) = false := beq_eq_false_iff_ne.mpr c6
            have c6b1 : (a0.toList != ([111, 98, 106, 101, 99, 116, 115] : List UInt8)) = true := bne_iff_ne.mpr c6
            by_cases c7 : a0.toList = ([114, 101, 97, 100] : List UInt8)
            · rw [if_pos c7] at H
              have c7b0 : (a0.toList == ([114, 101, 97, 100] : List UInt8)) = true := beq_iff_eq.mpr c7
              have c7b1 : (a0.toList != ([114, 101, 97, 100] : List UInt8)) = false := bne_eq_false_iff_eq.mpr c7
              clear c7
              have H' := Aside0.mk H
              clear H
              go_wp2
              go_meet
              case rel => exact ⟨_, ((a0.toList == ([114, 101, 97, 100] : List UInt8))), (by first | rfl | (simp; done) | (simp [*]; done)), H', ⟨by first | omega | exact Nat.le_refl _⟩, by repeat (first | exact Drawn0.refl _ | apply Drawn0.step)⟩
            · rw [if_neg c7] at H
              have c7b0 : (a0.toList == ([114, 101, 97, 100] : List UInt8)) = false := beq_eq_false_iff_ne.mpr c7
              have c7b1 : (a0.toList != ([114, 101, 97, 100] : List UInt8)) = true := bne_iff_ne.mpr c7
              have H' := Aside0.mk H
              clear H
              go_wp2
              go_meet
              case rel => exact ⟨_, ((a0.toList == ([108, 111, 103] : List UInt8))), (by first | rfl | (simp; done) | (simp [*]; done)), H', ⟨by first | omega | exact Nat.le_refl _⟩, by repeat (first | exact Drawn0.refl _ | apply Drawn0.step)⟩
  case rest =>
    clear HC2
    try clear p2
    try clear c3
    try clear c3b0
    try clear c3b1
    try clear c4
    try clear c4b0
    try clear c4b1
    try clear c5
    try clear c5b0
    try clear c5b1
    try clear c6
    try clear c6b0
    try clear c6b1
    try clear c7
    try clear c7b0
    try clear c7b1
    obtain ⟨kq, x4_1, rfl, HA, HJ1, ⟨mc1, rfl⟩⟩ := hcut
    cases kq with
    | zero => exact absurd HA.out (by simp [lunetteref20_numbers.j0])
    | succ kj1 =>
      have H := HA.out
      clear HA
      simp only [lunetteref20_numbers.j0] at H
      by_cases c8 : x4_1 = true
      · subst c8
        have H1 : (some 2) = some r := by rw [if_pos rfl] at H; exact H
        clear H
        have H := H1
        clear H1
        obtain rfl := Option.some.inj H
        go_wp2
        go_ret
        exact ⟨by first | rfl | (simp; done) | (simp [*]; done), by repeat (first | exact Drawn0.refl _ | apply Drawn0.step)⟩
      · replace c8 := Bool.eq_false_iff.mpr c8
        subst c8
        have H1 : (if a0.toList = ([112, 105, 110] : List UInt8) then (lunetteref20_numbers.j1 kj1 a0 (a0.toList == ([112, 105, 110] : List UInt8))) else (if a0.toList = ([117, 110, 112, 105, 110] : List UInt8) then (lunetteref20_numbers.j1 kj1 a0 (a0.toList == ([117, 110, 112, 105, 110] : List UInt8))) else (lunetteref20_numbers.j1 kj1 a0 (a0.toList == ([102, 117, 115, 101] : List UInt8))))) = some r := by rw [if_neg (show ¬ (false = true) by decide)] at H; exact H
        clear H
        have H := H1
        clear H1
        have HC9 := Aside0.mk H
        clear H
        go_upto_if 11 with (fail)
        go_cut [11] (fun v11 wc => ∃ (kq : Nat) (x11_8 : Bool), v11 = .bool x11_8 ∧ Aside0 (lunetteref20_numbers.j1 kq a0 x11_8 = some r) ∧ Aside0 (kq ≤ kj1) ∧ Drawn0 w wc)
        case first =>
          have H := HC9.out
          clear HC9
          by_cases c10 : a0.toList = ([112, 105, 110] : List UInt8)
          · rw [if_pos c10] at H
            have c10b0 : (a0.toList == ([112, 105, 110] : List UInt8)) = true := beq_iff_eq.mpr c10
            have c10b1 : (a0.toList != ([112, 105, 110] : List UInt8)) = false := bne_eq_false_iff_eq.mpr c10
            clear c10
            (first | rw [c10b0] | (simp only [i64_w, i32_w]; rw [c10b0]) | skip)
            have H' := Aside0.mk H
            clear H
            go_wp2
            go_meet
            case rel => exact ⟨_, ((a0.toList == ([112, 105, 110] : List UInt8))), (by first | rfl | (simp; done) | (simp [*]; done)), H', ⟨by have := HJ1.out; first | omega | exact Nat.le_refl _⟩, by repeat (first | exact Drawn0.refl _ | apply Drawn0.step)⟩
          · rw [if_neg c10] at H
            have c10b0 : (a0.toList == ([112, 105, 110] : List UInt8)) = false := beq_eq_false_iff_ne.mpr c10
            have c10b1 : (a0.toList != ([112, 105, 110] : List UInt8)) = true := bne_iff_ne.mpr c10
            (first | rw [c10b0] | (simp only [i64_w, i32_w]; rw [c10b0]) | skip)
            by_cases c11 : a0.toList = ([117, 110, 112, 105, 110] : List UInt8)
            · rw [if_pos c11] at H
              have c11b0 : (a0.toList == ([117, 110, 112, 105, 110] : List UInt8)) = true := beq_iff_eq.mpr c11
              have c11b1 : (a0.toList != ([117, 110, 112, 105, 110] : List UInt8)) = false := bne_eq_false_iff_eq.mpr c11
              clear c11
              have H' := Aside0.mk H
              clear H
              go_wp2
              go_meet
              case rel => exact ⟨_, ((a0.toList == ([117, 110, 112, 105, 110] : List UInt8))), (by first | rfl | (simp; done) | (simp [*]; done)), H', ⟨by have := HJ1.out; first | omega | exact Nat.le_refl _⟩, by repeat (first | exact Drawn0.refl _ | apply Drawn0.step)⟩
            · rw [if_neg c11] at H
              have c11b0 : (a0.toList == ([117, 110, 112, 105, 110] : List UInt8)) = false := beq_eq_false_iff_ne.mpr c11
              have c11b1 : (a0.toList != ([117, 110, 112, 105, 110] : List UInt8)) = true := bne_iff_ne.mpr c11
              have H' := Aside0.mk H
              clear H
              go_wp2
              go_meet
              case rel => exact ⟨_, ((a0.toList == ([102, 117, 115, 101] : List UInt8))), (by first | rfl | (simp; done) | (simp [*]; done)), H', ⟨by have := HJ1.out; first | omega | exact Nat.le_refl _⟩, by repeat (first | exact Drawn0.refl _ | apply Drawn0.step)⟩
        case rest =>
          clear HC9
          try clear c1
          try clear p2
          try clear c3
          try clear c3b0
          try clear c3b1
          try clear c4
          try clear c4b0
          try clear c4b1
          try clear c5
          try clear c5b0
          try clear c5b1
          try clear c6
          try clear c6b0
          try clear c6b1
          try clear c7
          try clear c7b0
          try clear c7b1
          try clear c8
          try clear c10
          try clear c10b0
          try clear c10b1
          try clear c11
          try clear c11b0
          try clear c11b1
          try clear p2
          obtain ⟨kq, x11_8, rfl, HA, HJ8, ⟨mc8, rfl⟩⟩ := hcut
          cases kq with
          | zero => exact absurd HA.out (by simp [lunetteref20_numbers.j1])
          | succ kj8 =>
            have H := HA.out
            clear HA
            simp only [lunetteref20_numbers.j1] at H
            by_cases c12 : x11_8 = true
            · subst c12
              have H1 : (some 1) = some r := by rw [if_pos rfl] at H; exact H
              clear H
              have H := H1
              clear H1
              obtain rfl := Option.some.inj H
              go_wp2
              go_ret
              exact ⟨by first | rfl | (simp; done) | (simp [*]; done), by repeat (first | exact Drawn0.refl _ | apply Drawn0.step)⟩
            · replace c12 := Bool.eq_false_iff.mpr c12
              subst c12
              have H1 : (if a0.toList = ([115, 112, 111, 105, 108] : List UInt8) then (some 3) else (if a0.toList = ([99, 114, 97, 115, 104] : List UInt8) then (some 9) else (if a0.toList = ([117, 112, 100, 97, 116, 101] : List UInt8) then (some 0) else (if a0.toList = ([110, 111, 119] : List UInt8) then (some 0) else (if a0.toList = ([115, 99, 114, 117, 98] : List UInt8) then (some 0) else (if a0.toList = ([111, 112, 101, 110] : List UInt8) then (some 0) else (if a0.toList = ([114, 117, 108, 101, 115] : List UInt8) then (some 0) else (some (-1))))))))) = some r := by rw [if_neg (show ¬ (false = true) by decide)] at H; exact H
              clear H
              have H := H1
              clear H1
              by_cases c13 : a0.toList = ([115, 112, 111, 105, 108] : List UInt8)
              · rw [if_pos c13] at H
                have c13b0 : (a0.toList == ([115, 112, 111, 105, 108] : List UInt8)) = true := beq_iff_eq.mpr c13
                have c13b1 : (a0.toList != ([115, 112, 111, 105, 108] : List UInt8)) = false := bne_eq_false_iff_eq.mpr c13
                clear c13
                obtain rfl := Option.some.inj H
                go_wp2
                go_ret
                exact ⟨by first | rfl | (simp; done) | (simp [*]; done), by repeat (first | exact Drawn0.refl _ | apply Drawn0.step)⟩
              · rw [if_neg c13] at H
                have c13b0 : (a0.toList == ([115, 112, 111, 105, 108] : List UInt8)) = false := beq_eq_false_iff_ne.mpr c13
                have c13b1 : (a0.toList != ([115, 112, 111, 105, 108] : List UInt8)) = true := bne_iff_ne.mpr c13
                by_cases c14 : a0.toList = ([99, 114, 97, 115, 104] : List UInt8)
                · rw [if_pos c14] at H
                  have c14b0 : (a0.toList == ([99, 114, 97, 115, 104] : List UInt8)) = true := beq_iff_eq.mpr c14
                  have c14b1 : (a0.toList != ([99, 114, 97, 115, 104] : List UInt8)) = false := bne_eq_false_iff_eq.mpr c14
                  clear c14
                  obtain rfl := Option.some.inj H
                  go_wp2
                  go_ret
                  exact ⟨by first | rfl | (simp; done) | (simp [*]; done), by repeat (first | exact Drawn0.refl _ | apply Drawn0.step)⟩
                · rw [if_neg c14] at H
                  have c14b0 : (a0.toList == ([99, 114, 97, 115, 104] : List UInt8)) = false := beq_eq_false_iff_ne.mpr c14
                  have c14b1 : (a0.toList != ([99, 114, 97, 115, 104] : List UInt8)) = true := bne_iff_ne.mpr c14
                  by_cases c15 : a0.toList = ([117, 112, 100, 97, 116, 101] : List UInt8)
                  · rw [if_pos c15] at H
                    have c15b0 : (a0.toList == ([117, 112, 100, 97, 116, 101] : List UInt8)) = true := beq_iff_eq.mpr c15
                    have c15b1 : (a0.toList != ([117, 112, 100, 97, 116, 101] : List UInt8)) = false := bne_eq_false_iff_eq.mpr c15
                    clear c15
                    obtain rfl := Option.some.inj H
                    go_wp2
                    go_ret
                    exact ⟨by first | rfl | (simp; done) | (simp [*]; done), by repeat (first | exact Drawn0.refl _ | apply Drawn0.step)⟩
                  · rw [if_neg c15] at H
                    have c15b0 : (a0.toList == ([117, 112, 100, 97, 116, 101] : List UInt8)) = false := beq_eq_false_iff_ne.mpr c15
                    have c15b1 : (a0.toList != ([117, 112, 100, 97, 116, 101] : List UInt8)) = true := bne_iff_ne.mpr c15
                    by_cases c16 : a0.toList = ([110, 111, 119] : List UInt8)
                    · rw [if_pos c16] at H
                      have c16b0 : (a0.toList == ([110, 111, 119] : List UInt8)) = true := beq_iff_eq.mpr c16
                      have c16b1 : (a0.toList != ([110, 111, 119] : List UInt8)) = false := bne_eq_false_iff_eq.mpr c16
                      clear c16
                      obtain rfl := Option.some.inj H
                      go_wp2
                      go_ret
                      exact ⟨by first | rfl | (simp; done) | (simp [*]; done), by repeat (first | exact Drawn0.refl _ | apply Drawn0.step)⟩
                    · rw [if_neg c16] at H
                      have c16b0 : (a0.toList == ([110, 111, 119] : List UInt8)) = false := beq_eq_false_iff_ne.mpr c16
                      have c16b1 : (a0.toList != ([110, 111, 119] : List UInt8)) = true := bne_iff_ne.mpr c16
                      by_cases c17 : a0.toList = ([115, 99, 114, 117, 98] : List UInt8)
                      · rw [if_pos c17] at H
                        have c17b0 : (a0.toList == ([115, 99, 114, 117, 98] : List UInt8)) = true := beq_iff_eq.mpr c17
                        have c17b1 : (a0.toList != ([115, 99, 114, 117, 98] : List UInt8)) = false := bne_eq_false_iff_eq.mpr c17
                        clear c17
                        obtain rfl := Option.some.inj H
                        go_wp2
                        go_ret
                        exact ⟨by first | rfl | (simp; done) | (simp [*]; done), by repeat (first | exact Drawn0.refl _ | apply Drawn0.step)⟩
                      · rw [if_neg c17] at H
                        have c17b0 : (a0.toList == ([115, 99, 114, 117, 98] : List UInt8)) = false := beq_eq_false_iff_ne.mpr c17
                        have c17b1 : (a0.toList != ([115, 99, 114, 117, 98] : List UInt8)) = true := bne_iff_ne.mpr c17
                        by_cases c18 : a0.toList = ([111, 112, 101, 110] : List UInt8)
                        · rw [if_pos c18] at H
                          have c18b0 : (a0.toList == ([111, 112, 101, 110] : List UInt8)) = true := beq_iff_eq.mpr c18
                          have c18b1 : (a0.toList != ([111, 112, 101, 110] : List UInt8)) = false := bne_eq_false_iff_eq.mpr c18
                          clear c18
                          obtain rfl := Option.some.inj H
                          go_wp2
                          go_ret
                          exact ⟨by first | rfl | (simp; done) | (simp [*]; done), by repeat (first | exact Drawn0.refl _ | apply Drawn0.step)⟩
                        · rw [if_neg c18] at H
                          have c18b0 : (a0.toList == ([111, 112, 101, 110] : List UInt8)) = false := beq_eq_false_iff_ne.mpr c18
                          have c18b1 : (a0.toList != ([111, 112, 101, 110] : List UInt8)) = true := bne_iff_ne.mpr c18
                          by_cases c19 : a0.toList = ([114, 117, 108, 101, 115] : List UInt8)
                          · rw [if_pos c19] at H
                            have c19b0 : (a0.toList == ([114, 117, 108, 101, 115] : List UInt8)) = true := beq_iff_eq.mpr c19
                            have c19b1 : (a0.toList != ([114, 117, 108, 101, 115] : List UInt8)) = false := bne_eq_false_iff_eq.mpr c19
                            clear c19
                            obtain rfl := Option.some.inj H
                            go_wp2
                            go_ret
                            exact ⟨by first | rfl | (simp; done) | (simp [*]; done), by repeat (first | exact Drawn0.refl _ | apply Drawn0.step)⟩
                          · rw [if_neg c19] at H
                            have c19b0 : (a0.toList == ([114, 117, 108, 101, 115] : List UInt8)) = false := beq_eq_false_iff_ne.mpr c19
                            have c19b1 : (a0.toList != ([114, 117, 108, 101, 115] : List UInt8)) = true := bne_iff_ne.mpr c19
                            obtain rfl := Option.some.inj H
                            go_wp2
                            go_ret
                            exact ⟨by first | rfl | (simp; done) | (simp [*]; done), by repeat (first | exact Drawn0.refl _ | apply Drawn0.step)⟩

/-! ### lunetteref20_tuples: function 32 -/
def lunetteref20_tuples.j0 : Nat → ByteArray → Bool → Option (Int × Int)
  | 0, _, _ => none
  | k + 1, x4, x5 => if x5 = true then (some (1, 1)) else (if x4.toList = ([114, 101, 97, 100] : List UInt8) then (some (0, 1)) else (if x4.toList = ([117, 112, 100, 97, 116, 101] : List UInt8) then (some (0, 8)) else (some (0, 0))))
def lunetteref20_tuples.f (k : Nat) (a0 : ByteArray) : Option (Int × Int) := if a0.toList = ([99, 104, 101, 99, 107] : List UInt8) then (lunetteref20_tuples.j0 k a0 (a0.toList == ([99, 104, 101, 99, 107] : List UInt8))) else (if a0.toList = ([101, 120, 112, 97, 110, 100] : List UInt8) then (lunetteref20_tuples.j0 k a0 (a0.toList == ([101, 120, 112, 97, 110, 100] : List UInt8))) else (if a0.toList = ([115, 117, 98, 106, 101, 99, 116, 115] : List UInt8) then (lunetteref20_tuples.j0 k a0 (a0.toList == ([115, 117, 98, 106, 101, 99, 116, 115] : List UInt8))) else (lunetteref20_tuples.j0 k a0 (a0.toList == ([111, 98, 106, 101, 99, 116, 115] : List UInt8)))))
theorem lunetteref20_tuples.mono_l : ∀ k, (∀ y0 y1, LeO (lunetteref20_tuples.j0 k y0 y1) (lunetteref20_tuples.j0 (k + 1) y0 y1))
  | 0 => fun _ _ r h => by simp [lunetteref20_tuples.j0] at h
  | k + 1 => by
    have ih0 := lunetteref20_tuples.mono_l k
    · intro y0 y1
      unfold lunetteref20_tuples.j0
      repeat' first
      | (with_reducible exact ih0 _ _)
      | (with_reducible exact LeO.refl _)
      | (with_reducible exact LeO.none _)
      | (with_reducible refine LeO.ite ?_ ?_)
      | (with_reducible refine LeO.bind ?_ (fun _ => ?_))
      | exact ih0 _ _
      | exact LeO.none _
      | refine LeO.ite ?_ ?_
      | refine LeO.bind ?_ (fun _ => ?_)
theorem lunetteref20_tuples.mono : ∀ a0 k, LeO (lunetteref20_tuples.f k a0) (lunetteref20_tuples.f (k + 1) a0) := by
  intro a0 k
  have ih0 := lunetteref20_tuples.mono_l k
  unfold lunetteref20_tuples.f
  repeat' first
      | (with_reducible exact ih0 _ _)
      | (with_reducible exact LeO.refl _)
      | (with_reducible exact LeO.none _)
      | (with_reducible refine LeO.ite ?_ ?_)
      | (with_reducible refine LeO.bind ?_ (fun _ => ?_))
      | exact ih0 _ _
      | exact LeO.none _
      | refine LeO.ite ?_ ?_
      | refine LeO.bind ?_ (fun _ => ?_)
set_option maxHeartbeats 8000000 in
set_option maxRecDepth 100000 in
theorem lunetteref20_tuples.calls (k : Nat) (a0 : ByteArray) (r1 : Int) (r2 : Int) (w : World) (h : lunetteref20_tuples.f k a0 = some (r1, r2)) :
    Calls Tryz.prog 32 #[.string a0] w fun e w' => e = .returned (.tuple #[.int .i64 r1, .int .i64 r2]) ∧ Drawn0 w w' := by
  have H : (if a0.toList = ([99, 104, 101, 99, 107] : List UInt8) then (lunetteref20_tuples.j0 k a0 (a0.toList == ([99, 104, 101, 99, 107] : List UInt8))) else (if a0.toList = ([101, 120, 112, 97, 110, 100] : List UInt8) then (lunetteref20_tuples.j0 k a0 (a0.toList == ([101, 120, 112, 97, 110, 100] : List UInt8))) else (if a0.toList = ([115, 117, 98, 106, 101, 99, 116, 115] : List UInt8) then (lunetteref20_tuples.j0 k a0 (a0.toList == ([115, 117, 98, 106, 101, 99, 116, 115] : List UInt8))) else (lunetteref20_tuples.j0 k a0 (a0.toList == ([111, 98, 106, 101, 99, 116, 115] : List UInt8)))))) = some (r1, r2) := h
  clear h
  have HC2 := Aside0.mk H
  clear H
  go_enter Tryz.func32, Tryz.ntmps32
  go_upto_if 5 with (fail)
  go_cut [5] (fun v5 wc => ∃ (kq : Nat) (x5_1 : Bool), v5 = .bool x5_1 ∧ Aside0 (lunetteref20_tuples.j0 kq a0 x5_1 = some (r1, r2)) ∧ Aside0 (kq ≤ k) ∧ Drawn0 w wc)
  case first =>
    have H := HC2.out
    clear HC2
    by_cases c3 : a0.toList = ([99, 104, 101, 99, 107] : List UInt8)
    · rw [if_pos c3] at H
      have c3b0 : (a0.toList == ([99, 104, 101, 99, 107] : List UInt8)) = true := beq_iff_eq.mpr c3
      have c3b1 : (a0.toList != ([99, 104, 101, 99, 107] : List UInt8)) = false := bne_eq_false_iff_eq.mpr c3
      clear c3
      (first | rw [c3b0] | (simp only [i64_w, i32_w]; rw [c3b0]) | skip)
      have H' := Aside0.mk H
      clear H
      go_wp2
      go_meet
      case rel => exact ⟨_, ((a0.toList == ([99, 104, 101, 99, 107] : List UInt8))), (by first | rfl | (simp; done) | (simp [*]; done)), H', ⟨by first | omega | exact Nat.le_refl _⟩, by repeat (first | exact Drawn0.refl _ | apply Drawn0.step)⟩
    · rw [if_neg c3] at H
      have c3b0 : (a0.toList == ([99, 104, 101, 99, 107] : List UInt8)) = false := beq_eq_false_iff_ne.mpr c3
      have c3b1 : (a0.toList != ([99, 104, 101, 99, 107] : List UInt8)) = true := bne_iff_ne.mpr c3
      (first | rw [c3b0] | (simp only [i64_w, i32_w]; rw [c3b0]) | skip)
      by_cases c4 : a0.toList = ([101, 120, 112, 97, 110, 100] : List UInt8)
      · rw [if_pos c4] at H
        have c4b0 : (a0.toList == ([101, 120, 112, 97, 110, 100] : List UInt8)) = true := beq_iff_eq.mpr c4
        have c4b1 : (a0.toList != ([101, 120, 112, 97, 110, 100] : List UInt8)) = false := bne_eq_false_iff_eq.mpr c4
        clear c4
        have H' := Aside0.mk H
        clear H
        go_wp2
        go_meet
        case rel => exact ⟨_, ((a0.toList == ([101, 120, 112, 97, 110, 100] : List UInt8))), (by first | rfl | (simp; done) | (simp [*]; done)), H', ⟨by first | omega | exact Nat.le_refl _⟩, by repeat (first | exact Drawn0.refl _ | apply Drawn0.step)⟩
      · rw [if_neg c4] at H
        have c4b0 : (a0.toList == ([101, 120, 112, 97, 110, 100] : List UInt8)) = false := beq_eq_false_iff_ne.mpr c4
        have c4b1 : (a0.toList != ([101, 120, 112, 97, 110, 100] : List UInt8)) = true := bne_iff_ne.mpr c4
        by_cases c5 : a0.toList = ([115, 117, 98, 106, 101, 99, 116, 115] : List UInt8)
        · rw [if_pos c5] at H
          have c5b0 : (a0.toList == ([115, 117, 98, 106, 101, 99, 116, 115] : List UInt8)) = true := beq_iff_eq.mpr c5
          have c5b1 : (a0.toList != ([115, 117, 98, 106, 101, 99, 116, 115] : List UInt8)) = false := bne_eq_false_iff_eq.mpr c5
          clear c5
          have H' := Aside0.mk H
          clear H
          go_wp2
          go_meet
          case rel => exact ⟨_, ((a0.toList == ([115, 117, 98, 106, 101, 99, 116, 115] : List UInt8))), (by first | rfl | (simp; done) | (simp [*]; done)), H', ⟨by first | omega | exact Nat.le_refl _⟩, by repeat (first | exact Drawn0.refl _ | apply Drawn0.step)⟩
        · rw [if_neg c5] at H
          have c5b0 : (a0.toList == ([115, 117, 98, 106, 101, 99, 116, 115] : List UInt8)) = false := beq_eq_false_iff_ne.mpr c5
          have c5b1 : (a0.toList != ([115, 117, 98, 106, 101, 99, 116, 115] : List UInt8)) = true := bne_iff_ne.mpr c5
          have H' := Aside0.mk H
          clear H
          go_wp2
          go_meet
          case rel => exact ⟨_, ((a0.toList == ([111, 98, 106, 101, 99, 116, 115] : List UInt8))), (by first | rfl | (simp; done) | (simp [*]; done)), H', ⟨by first | omega | exact Nat.le_refl _⟩, by repeat (first | exact Drawn0.refl _ | apply Drawn0.step)⟩
  case rest =>
    clear HC2
    try clear p2
    try clear c3
    try clear c3b0
    try clear c3b1
    try clear c4
    try clear c4b0
    try clear c4b1
    try clear c5
    try clear c5b0
    try clear c5b1
    obtain ⟨kq, x5_1, rfl, HA, HJ1, ⟨mc1, rfl⟩⟩ := hcut
    cases kq with
    | zero => exact absurd HA.out (by simp [lunetteref20_tuples.j0])
    | succ kj1 =>
      have H := HA.out
      clear HA
      simp only [lunetteref20_tuples.j0] at H
      by_cases c6 : x5_1 = true
      · subst c6
        have H1 : (some (1, 1)) = some (r1, r2) := by rw [if_pos rfl] at H; exact H
        clear H
        have H := H1
        clear H1
        simp only [Option.some.injEq, Prod.mk.injEq] at H
        obtain ⟨rfl, rfl⟩ := H
        go_wp2
        go_ret2
        exact ⟨by first | rfl | (simp; done) | (simp [*]; done), by repeat (first | exact Drawn0.refl _ | apply Drawn0.step)⟩
      · replace c6 := Bool.eq_false_iff.mpr c6
        subst c6
        have H1 : (if a0.toList = ([114, 101, 97, 100] : List UInt8) then (some (0, 1)) else (if a0.toList = ([117, 112, 100, 97, 116, 101] : List UInt8) then (some (0, 8)) else (some (0, 0)))) = some (r1, r2) := by rw [if_neg (show ¬ (false = true) by decide)] at H; exact H
        clear H
        have H := H1
        clear H1
        by_cases c7 : a0.toList = ([114, 101, 97, 100] : List UInt8)
        · rw [if_pos c7] at H
          have c7b0 : (a0.toList == ([114, 101, 97, 100] : List UInt8)) = true := beq_iff_eq.mpr c7
          have c7b1 : (a0.toList != ([114, 101, 97, 100] : List UInt8)) = false := bne_eq_false_iff_eq.mpr c7
          clear c7
          simp only [Option.some.injEq, Prod.mk.injEq] at H
          obtain ⟨rfl, rfl⟩ := H
          go_wp2
          go_ret2
          exact ⟨by first | rfl | (simp; done) | (simp [*]; done), by repeat (first | exact Drawn0.refl _ | apply Drawn0.step)⟩
        · rw [if_neg c7] at H
          have c7b0 : (a0.toList == ([114, 101, 97, 100] : List UInt8)) = false := beq_eq_false_iff_ne.mpr c7
          have c7b1 : (a0.toList != ([114, 101, 97, 100] : List UInt8)) = true := bne_iff_ne.mpr c7
          by_cases c8 : a0.toList = ([117, 112, 100, 97, 116, 101] : List UInt8)
          · rw [if_pos c8] at H
            have c8b0 : (a0.toList == ([117, 112, 100, 97, 116, 101] : List UInt8)) = true := beq_iff_eq.mpr c8
            have c8b1 : (a0.toList != ([117, 112, 100, 97, 116, 101] : List UInt8)) = false := bne_eq_false_iff_eq.mpr c8
            clear c8
            simp only [Option.some.injEq, Prod.mk.injEq] at H
            obtain ⟨rfl, rfl⟩ := H
            go_wp2
            go_ret2
            exact ⟨by first | rfl | (simp; done) | (simp [*]; done), by repeat (first | exact Drawn0.refl _ | apply Drawn0.step)⟩
          · rw [if_neg c8] at H
            have c8b0 : (a0.toList == ([117, 112, 100, 97, 116, 101] : List UInt8)) = false := beq_eq_false_iff_ne.mpr c8
            have c8b1 : (a0.toList != ([117, 112, 100, 97, 116, 101] : List UInt8)) = true := bne_iff_ne.mpr c8
            simp only [Option.some.injEq, Prod.mk.injEq] at H
            obtain ⟨rfl, rfl⟩ := H
            go_wp2
            go_ret2
            exact ⟨by first | rfl | (simp; done) | (simp [*]; done), by repeat (first | exact Drawn0.refl _ | apply Drawn0.step)⟩

end Go.Proofs.YtbdoafigggcdpaaGreatDoor.PScr
