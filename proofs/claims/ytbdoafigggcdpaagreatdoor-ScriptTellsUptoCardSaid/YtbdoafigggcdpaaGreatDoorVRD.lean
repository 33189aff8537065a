/- Walks of the reference, cut out of what print.sh wrote for the laws of this seat. No condition of ours. -/
import Derived.Test.YtbdoafigggcdpaaGreatDoorVK0
import Derived.Test.YtbdoafigggcdpaaGreatDoorVRB
import Derived.Test.YtbdoafigggcdpaaGreatDoorVRC
namespace Go.Proofs.YtbdoafigggcdpaaGreatDoor.PScr
open Go.RowKit Go.Proofs.YtbdoafigggcdpaaGreatDoorW.PrintWords Go.Proofs.YtbdoafigggcdpaaGreatDoorW.PrintLast Go.Proofs.YtbdoafigggcdpaaGreatDoorW.PrintMore
attribute [local go_sem] max2_int min2_int max_two min_two max_three min_three max_four min_four
set_option linter.unusedVariables false
set_option linter.unusedSimpArgs false
/-! ### lunetteref20_Check: function 11 -/
mutual
def lunetteref20_Check.j0 : Nat → Int → Bool → ByteArray → List Int → List (S51) → ByteArray → ByteArray → Option (Bool)
  | 0, _, _, _, _, _, _, _ => none
  | k + 1, x3, x34, x177000, x177001, x177002, x177003, x177004 => if x34 = true then (some false) else (if x3 = 9 then (if ((x177001.length : Int) % 2) = 1 then (lunetteref20_Check.j1 k true x177000 x177001 x177002 x177003 x177004) else (if (x177001.length : Int) > 16 then (lunetteref20_Check.j1 k true x177000 x177001 x177002 x177003 x177004) else (if x3 < 9 then (lunetteref20_Check.j1 k ((x177001.length : Int) != x3) x177000 x177001 x177002 x177003 x177004) else (lunetteref20_Check.j1 k false x177000 x177001 x177002 x177003 x177004)))) else (if x3 < 9 then (lunetteref20_Check.j1 k ((x177001.length : Int) != x3) x177000 x177001 x177002 x177003 x177004) else (lunetteref20_Check.j1 k false x177000 x177001 x177002 x177003 x177004)))
def lunetteref20_Check.j1 : Nat → Bool → ByteArray → List Int → List (S51) → ByteArray → ByteArray → Option (Bool)
  | 0, _, _, _, _, _, _ => none
  | k + 1, x60, x177000, x177001, x177002, x177003, x177004 => if x60 = true then (some false) else (lunetteref20_Check.l0 k 0 x177000 x177001 x177002 x177003 x177004)
def lunetteref20_Check.l0 : Nat → Int → ByteArray → List Int → List (S51) → ByteArray → ByteArray → Option (Bool)
  | 0, _, _, _, _, _, _ => none
  | k + 1, x6, x177000, x177001, x177002, x177003, x177004 => if x6 < (x177001.length : Int) then (if 0 ≤ x6 then (if (rd x177001 x6) < 0 then (some false) else (if (rd x177001 x6) > 1000000 then (some false) else (lunetteref20_Check.l0 k (wrap64 (x6 + 1)) x177000 x177001 x177002 x177003 x177004))) else (none)) else (lunetteref20_Check.l1 k 0 x177000 x177001 x177002 x177003 x177004)
def lunetteref20_Check.l1 : Nat → Int → ByteArray → List Int → List (S51) → ByteArray → ByteArray → Option (Bool)
  | 0, _, _, _, _, _, _ => none
  | k + 1, x7, x177000, x177001, x177002, x177003, x177004 => if x7 < (x177002.length : Int) then (if 0 ≤ x7 then ((lunetteref11_Check.f k ((rd_T51 x177002 x7).f0) ((rd_T51 x177002 x7).f1) ((rd_T51 x177002 x7).f2) ((rd_T51 x177002 x7).f3.f0) ((rd_T51 x177002 x7).f3.f1) ((rd_T51 x177002 x7).f3.f2)).bind fun t183 => (if t183 = true then (lunetteref20_Check.l1 k (wrap64 (x7 + 1)) x177000 x177001 x177002 x177003 x177004) else (some false))) else (none)) else (if x177000.toList = ([117, 112, 100, 97, 116, 101] : List UInt8) then (if (x177003.size : Int) = (x177002.length : Int) then (lunetteref20_Check.l2 k 0 x177000 x177001 x177002 x177003 x177004) else (some false)) else (if x177003.toList = ([] : List UInt8) then (lunetteref20_Check.j5 k x177000 x177001 x177002 x177003 x177004) else (some false)))
def lunetteref20_Check.j5 : Nat → ByteArray → List Int → List (S51) → ByteArray → ByteArray → Option (Bool)
  | 0, _, _, _, _, _ => none
  | k + 1, x177000, x177001, x177002, x177003, x177004 => if x177000.toList = ([114, 117, 108, 101, 115] : List UInt8) then (lunetteref20_Check.l3 k 0 x177000 x177001 x177002 x177003 x177004) else (if x177004.toList = ([] : List UInt8) then (if x177000.toList = ([115, 112, 111, 105, 108] : List UInt8) then (if 2 < (x177001.length : Int) then (some (decide ((rd x177001 2) ≤ 255))) else (none)) else (some true)) else (some false))
def lunetteref20_Check.l3 : Nat → Int → ByteArray → List Int → List (S51) → ByteArray → ByteArray → Option (Bool)
  | 0, _, _, _, _, _, _ => none
  | k + 1, x9, x177000, x177001, x177002, x177003, x177004 => if x9 < (x177004.size : Int) then (if 0 ≤ x9 then (if (bt x177004 x9) < 32 then (some false) else (if (bt x177004 x9) > 126 then (some false) else (lunetteref20_Check.l3 k (wrap64 (x9 + 1)) x177000 x177001 x177002 x177003 x177004))) else (none)) else (if (x177004.size : Int) ≥ 2 then (some (decide ((x177004.size : Int) ≤ 100))) else (some false))
def lunetteref20_Check.l2 : Nat → Int → ByteArray → List Int → List (S51) → ByteArray → ByteArray → Option (Bool)
  | 0, _, _, _, _, _, _ => none
  | k + 1, x8, x177000, x177001, x177002, x177003, x177004 => if x8 < (x177003.size : Int) then (if 0 ≤ x8 then (if (bt x177003 x8) = 43 then (lunetteref20_Check.l2 k (wrap64 (x8 + 1)) x177000 x177001 x177002 x177003 x177004) else (if (bt x177003 x8) = 45 then (lunetteref20_Check.l2 k (wrap64 (x8 + 1)) x177000 x177001 x177002 x177003 x177004) else (some false))) else (none)) else (lunetteref20_Check.j5 k x177000 x177001 x177002 x177003 x177004)
end
def lunetteref20_Check.f (k : Nat) (a0_0 : ByteArray) (l0_1 : List Int) (l0_2 : List (S51)) (a0_3 : ByteArray) (a0_4 : ByteArray) : Option (Bool) := (lunetteref20_numbers.f k a0_0).bind fun t177 => ((lunetteref20_tuples.f k a0_0).bind fun bt178 => (if t177 < 0 then (lunetteref20_Check.j0 k t177 true a0_0 l0_1 l0_2 a0_3 a0_4) else (if (l0_2.length : Int) < bt178.1 then (lunetteref20_Check.j0 k t177 true a0_0 l0_1 l0_2 a0_3 a0_4) else (lunetteref20_Check.j0 k t177 (decide ((l0_2.length : Int) > bt178.2)) a0_0 l0_1 l0_2 a0_3 a0_4))))
theorem lunetteref20_Check.mono_l : ∀ k, (∀ y0 y1 y2 y3 y4 y5 y6, LeO (lunetteref20_Check.j0 k y0 y1 y2 y3 y4 y5 y6) (lunetteref20_Check.j0 (k + 1) y0 y1 y2 y3 y4 y5 y6)) ∧ (∀ y0 y1 y2 y3 y4 y5, LeO (lunetteref20_Check.j1 k y0 y1 y2 y3 y4 y5) (lunetteref20_Check.j1 (k + 1) y0 y1 y2 y3 y4 y5)) ∧ (∀ y0 y1 y2 y3 y4 y5, LeO (lunetteref20_Check.l0 k y0 y1 y2 y3 y4 y5) (lunetteref20_Check.l0 (k + 1) y0 y1 y2 y3 y4 y5)) ∧ (∀ y0 y1 y2 y3 y4 y5, LeO (lunetteref20_Check.l1 k y0 y1 y2 y3 y4 y5) (lunetteref20_Check.l1 (k + 1) y0 y1 y2 y3 y4 y5)) ∧ (∀ y0 y1 y2 y3 y4, LeO (lunetteref20_Check.j5 k y0 y1 y2 y3 y4) (lunetteref20_Check.j5 (k + 1) y0 y1 y2 y3 y4)) ∧ (∀ y0 y1 y2 y3 y4 y5, LeO (lunetteref20_Check.l3 k y0 y1 y2 y3 y4 y5) (lunetteref20_Check.l3 (k + 1) y0 y1 y2 y3 y4 y5)) ∧ (∀ y0 y1 y2 y3 y4 y5, LeO (lunetteref20_Check.l2 k y0 y1 y2 y3 y4 y5) (lunetteref20_Check.l2 (k + 1) y0 y1 y2 y3 y4 y5))
  | 0 => ⟨fun _ _ _ _ _ _ _ r h => by simp [lunetteref20_Check.j0] at h, fun _ _ _ _ _ _ r h => by simp [lunetteref20_Check.j1] at h, fun _ _ _ _ _ _ r h => by simp [lunetteref20_Check.l0] at h, fun _ _ _ _ _ _ r h => by simp [lunetteref20_Check.l1] at h, fun _ _ _ _ _ r h => by simp [lunetteref20_Check.j5] at h, fun _ _ _ _ _ _ r h => by simp [lunetteref20_Check.l3] at h, fun _ _ _ _ _ _ r h => by simp [lunetteref20_Check.l2] at h⟩
  | k + 1 => by
    obtain ⟨ih0, ih1, ih2, ih3, ih4, ih5, ih6⟩ := lunetteref20_Check.mono_l k
    refine ⟨?_, ?_, ?_, ?_, ?_, ?_, ?_⟩
    · intro y0 y1 y2 y3 y4 y5 y6
      unfold lunetteref20_Check.j0
      repeat' first
      | (with_reducible exact ih0 _ _ _ _ _ _ _)
      | (with_reducible exact ih1 _ _ _ _ _ _)
      | (with_reducible exact ih2 _ _ _ _ _ _)
      | (with_reducible exact ih3 _ _ _ _ _ _)
      | (with_reducible exact ih4 _ _ _ _ _)
      | (with_reducible exact ih5 _ _ _ _ _ _)
      | (with_reducible exact ih6 _ _ _ _ _ _)
      | (with_reducible exact lunetteref11_Check.mono _ _ _ _ _ _ _)
      | (with_reducible exact lunetteref20_numbers.mono _ _)
      | (with_reducible exact lunetteref20_tuples.mono _ _)
      | (with_reducible exact LeO.refl _)
      | (with_reducible exact LeO.none _)
      | (with_reducible refine LeO.ite ?_ ?_)
      | (with_reducible refine LeO.bind ?_ (fun _ => ?_))
      | exact ih0 _ _ _ _ _ _ _
      | exact ih1 _ _ _ _ _ _
      | exact ih2 _ _ _ _ _ _
      | exact ih3 _ _ _ _ _ _
      | exact ih4 _ _ _ _ _
      | exact ih5 _ _ _ _ _ _
      | exact ih6 _ _ _ _ _ _
      | exact lunetteref11_Check.mono _ _ _ _ _ _ _
      | exact lunetteref20_numbers.mono _ _
      | exact lunetteref20_tuples.mono _ _
      | exact LeO.none _
      | refine LeO.ite ?_ ?_
      | refine LeO.bind ?_ (fun _ => ?_)
    · intro y0 y1 y2 y3 y4 y5
      unfold lunetteref20_Check.j1
      repeat' first
      | (with_reducible exact ih0 _ _ _ _ _ _ _)
      | (with_reducible exact ih1 _ _ _ _ _ _)
      | (with_reducible exact ih2 _ _ _ _ _ _)
      | (with_reducible exact ih3 _ _ _ _ _ _)
      | (with_reducible exact ih4 _ _ _ _ _)
      | (with_reducible exact ih5 _ _ _ _ _ _)
      | (with_reducible exact ih6 _ _ _ _ _ _)
      | (with_reducible exact lunetteref11_Check.mono _ _ _ _ _ _ _)
      | (with_reducible exact lunetteref20_numbers.mono _ _)
      | (with_reducible exact lunetteref20_tuples.mono _ _)
      | (with_reducible exact LeO.refl _)
      | (with_reducible exact LeO.none _)
      | (with_reducible refine LeO.ite ?_ ?_)
      | (with_reducible refine LeO.bind ?_ (fun _ => ?_))
      | exact ih0 _ _ _ _ _ _ _
      | exact ih1 _ _ _ _ _ _
      | exact ih2 _ _ _ _ _ _
      | exact ih3 _ _ _ _ _ _
      | exact ih4 _ _ _ _ _
      | exact ih5 _ _ _ _ _ _
      | exact ih6 _ _ _ _ _ _
      | exact lunetteref11_Check.mono _ _ _ _ _ _ _
      | exact lunetteref20_numbers.mono _ _
      | exact lunetteref20_tuples.mono _ _
      | exact LeO.none _
      | refine LeO.ite ?_ ?_
      | refine LeO.bind ?_ (fun _ => ?_)
    · intro y0 y1 y2 y3 y4 y5
      unfold lunetteref20_Check.l0
      repeat' first
      | (with_reducible exact ih0 _ _ _ _ _ _ _)
      | (with_reducible exact ih1 _ _ _ _ _ _)
      | (with_reducible exact ih2 _ _ _ _ _ _)
      | (with_reducible exact ih3 _ _ _ _ _ _)
      | (with_reducible exact ih4 _ _ _ _ _)
      | (with_reducible exact ih5 _ _ _ _ _ _)
      | (with_reducible exact ih6 _ _ _ _ _ _)
      | (with_reducible exact lunetteref11_Check.mono _ _ _ _ _ _ _)
      | (with_reducible exact lunetteref20_numbers.mono _ _)
      | (with_reducible exact lunetteref20_tuples.mono _ _)
      | (with_reducible exact LeO.refl _)
      | (with_reducible exact LeO.none _)
      | (with_reducible refine LeO.ite ?_ ?_)
      | (with_reducible refine LeO.bind ?_ (fun _ => ?_))
      | exact ih0 _ _ _ _ _ _ _
      | exact ih1 _ _ _ _ _ _
      | exact ih2 _ _ _ _ _ _
      | exact ih3 _ _ _ _ _ _
      | exact ih4 _ _ _ _ _
      | exact ih5 _ _ _ _ _ _
      | exact ih6 _ _ _ _ _ _
      | exact lunetteref11_Check.mono _ _ _ _ _ _ _
      | exact lunetteref20_numbers.mono _ _
      | exact lunetteref20_tuples.mono _ _
      | exact LeO.none _
      | refine LeO.ite ?_ ?_
      | refine LeO.bind ?_ (fun _ => ?_)
    · intro y0 y1 y2 y3 y4 y5
      unfold lunetteref20_Check.l1
      repeat' first
      | (with_reducible exact ih0 _ _ _ _ _ _ _)
      | (with_reducible exact ih1 _ _ _ _ _ _)
      | (with_reducible exact ih2 _ _ _ _ _ _)
      | (with_reducible exact ih3 _ _ _ _ _ _)
      | (with_reducible exact ih4 _ _ _ _ _)
      | (with_reducible exact ih5 _ _ _ _ _ _)
      | (with_reducible exact ih6 _ _ _ _ _ _)
      | (with_reducible exact lunetteref11_Check.mono _ _ _ _ _ _ _)
      | (with_reducible exact lunetteref20_numbers.mono _ _)
      | (with_reducible exact lunetteref20_tuples.mono _ _)
      | (with_reducible exact LeO.refl _)
      | (with_reducible exact LeO.none _)
      | (with_reducible refine LeO.ite ?_ ?_)
      | (with_reducible refine LeO.bind ?_ (fun _ => ?_))
      | exact ih0 _ _ _ _ _ _ _
      | exact ih1 _ _ _ _ _ _
      | exact ih2 _ _ _ _ _ _
      | exact ih3 _ _ _ _ _ _
      | exact ih4 _ _ _ _ _
      | exact ih5 _ _ _ _ _ _
      | exact ih6 _ _ _ _ _ _
      | exact lunetteref11_Check.mono _ _ _ _ _ _ _
      | exact lunetteref20_numbers.mono _ _
      | exact lunetteref20_tuples.mono _ _
      | exact LeO.none _
      | refine LeO.ite ?_ ?_
      | refine LeO.bind ?_ (fun _ => ?_)
    · intro y0 y1 y2 y3 y4
      unfold lunetteref20_Check.j5
      repeat' first
      | (with_reducible exact ih0 _ _ _ _ _ _ _)
      | (with_reducible exact ih1 _ _ _ _ _ _)
      | (with_reducible exact ih2 _ _ _ _ _ _)
      | (with_reducible exact ih3 _ _ _ _ _ _)
      | (with_reducible exact ih4 _ _ _ _ _)
      | (with_reducible exact ih5 _ _ _ _ _ _)
      | (with_reducible exact ih6 _ _ _ _ _ _)
      | (with_reducible exact lunetteref11_Check.mono _ _ _ _ _ _ _)
      | (with_reducible exact lunetteref20_numbers.mono _ _)
      | (with_reducible exact lunetteref20_tuples.mono _ _)
      | (with_reducible exact LeO.refl _)
      | (with_reducible exact LeO.none _)
      | (with_reducible refine LeO.ite ?_ ?_)
      | (with_reducible refine LeO.bind ?_ (fun _ => ?_))
      | exact ih0 _ _ _ _ _ _ _
      | exact ih1 _ _ _ _ _ _
      | exact ih2 _ _ _ _ _ _
      | exact ih3 _ _ _ _ _ _
      | exact ih4 _ _ _ _ _
      | exact ih5 _ _ _ _ _ _
      | exact ih6 _ _ _ _ _ _
      | exact lunetteref11_Check.mono _ _ _ _ _ _ _
      | exact lunetteref20_numbers.mono _ _
      | exact lunetteref20_tuples.mono _ _
      | exact LeO.none _
      | refine LeO.ite ?_ ?_
      | refine LeO.bind ?_ (fun _ => ?_)
    · intro y0 y1 y2 y3 y4 y5
      unfold lunetteref20_Check.l3
      repeat' first
      | (with_reducible exact ih0 _ _ _ _ _ _ _)
      | (with_reducible exact ih1 _ _ _ _ _ _)
      | (with_reducible exact ih2 _ _ _ _ _ _)
      | (with_reducible exact ih3 _ _ _ _ _ _)
      | (with_reducible exact ih4 _ _ _ _ _)
      | (with_reducible exact ih5 _ _ _ _ _ _)
      | (with_reducible exact ih6 _ _ _ _ _ _)
      | (with_reducible exact lunetteref11_Check.mono _ _ _ _ _ _ _)
      | (with_reducible exact lunetteref20_numbers.mono _ _)
      | (with_reducible exact lunetteref20_tuples.mono _ _)
      | (with_reducible exact LeO.refl _)
      | (with_reducible exact LeO.none _)
      | (with_reducible refine LeO.ite ?_ ?_)
      | (with_reducible refine LeO.bind ?_ (fun _ => ?_))
      | exact ih0 _ _ _ _ _ _ _
      | exact ih1 _ _ _ _ _ _
      | exact ih2 _ _ _ _ _ _
      | exact ih3 _ _ _ _ _ _
      | exact ih4 _ _ _ _ _
      | exact ih5 _ _ _ _ _ _
      | exact ih6 _ _ _ _ _ _
      | exact lunetteref11_Check.mono _ _ _ _ _ _ _
      | exact lunetteref20_numbers.mono _ _
      | exact lunetteref20_tuples.mono _ _
      | exact LeO.none _
      | refine LeO.ite ?_ ?_
      | refine LeO.bind ?_ (fun _ => ?_)
    · intro y0 y1 y2 y3 y4 y5
      unfold lunetteref20_Check.l2
      repeat' first
      | (with_reducible exact ih0 _ _ _ _ _ _ _)
      | (with_reducible exact ih1 _ _ _ _ _ _)
      | (with_reducible exact ih2 _ _ _ _ _ _)
      | (with_reducible exact ih3 _ _ _ _ _ _)
      | (with_reducible exact ih4 _ _ _ _ _)
      | (with_reducible exact ih5 _ _ _ _ _ _)
      | (with_reducible exact ih6 _ _ _ _ _ _)
      | (with_reducible exact lunetteref11_Check.mono _ _ _ _ _ _ _)
      | (with_reducible exact lunetteref20_numbers.mono _ _)
      | (with_reducible exact lunetteref20_tuples.mono _ _)
      | (with_reducible exact LeO.refl _)
      | (with_reducible exact LeO.none _)
      | (with_reducible refine LeO.ite ?_ ?_)
      | (with_reducible refine LeO.bind ?_ (fun _ => ?_))
      | exact ih0 _ _ _ _ _ _ _
      | exact ih1 _ _ _ _ _ _
      | exact ih2 _ _ _ _ _ _
      | exact ih3 _ _ _ _ _ _
      | exact ih4 _ _ _ _ _
      | exact ih5 _ _ _ _ _ _
      | exact ih6 _ _ _ _ _ _
      | exact lunetteref11_Check.mono _ _ _ _ _ _ _
      | exact lunetteref20_numbers.mono _ _
      | exact lunetteref20_tuples.mono _ _
      | exact LeO.none _
      | refine LeO.ite ?_ ?_
      | refine LeO.bind ?_ (fun _ => ?_)
theorem lunetteref20_Check.mono : ∀ a0 a1 a2 a3 a4 k, LeO (lunetteref20_Check.f k a0 a1 a2 a3 a4) (lunetteref20_Check.f (k + 1) a0 a1 a2 a3 a4) := by
  intro a0 a1 a2 a3 a4 k
  obtain ⟨ih0, ih1, ih2, ih3, ih4, ih5, ih6⟩ := lunetteref20_Check.mono_l k
  unfold lunetteref20_Check.f
  repeat' first
      | (with_reducible exact ih0 _ _ _ _ _ _ _)
      | (with_reducible exact ih1 _ _ _ _ _ _)
      | (with_reducible exact ih2 _ _ _ _ _ _)
      | (with_reducible exact ih3 _ _ _ _ _ _)
      | (with_reducible exact ih4 _ _ _ _ _)
      | (with_reducible exact ih5 _ _ _ _ _ _)
      | (with_reducible exact ih6 _ _ _ _ _ _)
      | (with_reducible exact lunetteref11_Check.mono _ _ _ _ _ _ _)
      | (with_reducible exact lunetteref20_numbers.mono _ _)
      | (with_reducible exact lunetteref20_tuples.mono _ _)
      | (with_reducible exact LeO.refl _)
      | (with_reducible exact LeO.none _)
      | (with_reducible refine LeO.ite ?_ ?_)
      | (with_reducible refine LeO.bind ?_ (fun _ => ?_))
      | exact ih0 _ _ _ _ _ _ _
      | exact ih1 _ _ _ _ _ _
      | exact ih2 _ _ _ _ _ _
      | exact ih3 _ _ _ _ _ _
      | exact ih4 _ _ _ _ _
      | exact ih5 _ _ _ _ _ _
      | exact ih6 _ _ _ _ _ _
      | exact lunetteref11_Check.mono _ _ _ _ _ _ _
      | exact lunetteref20_numbers.mono _ _
      | exact lunetteref20_tuples.mono _ _
      | exact LeO.none _
      | refine LeO.ite ?_ ?_
      | refine LeO.bind ?_ (fun _ => ?_)
set_option maxHeartbeats 8000000 in
set_option maxRecDepth 100000 in
theorem lunetteref20_Check.calls (k : Nat) (a0_0 : ByteArray) (A0_1 : Option Addr) (c0_1 : Nat) (l0_1 : List Int) (A0_2 : Option Addr) (c0_2 : Nat) (l0_2 : List (S51)) (a0_3 : ByteArray) (a0_4 : ByteArray) (r : Bool) (w : World) (hr0_1 : Kd.C (Kd.int .i64) w A0_1 l0_1.length l0_1) (hc0_1 : l0_1.length ≤ c0_1) (hr0_2 : Kd.C k51 w A0_2 l0_2.length l0_2) (hc0_2 : l0_2.length ≤ c0_2) (h : lunetteref20_Check.f k a0_0 l0_1 l0_2 a0_3 a0_4 = some r) :
    Calls Tryz.prog 11 #[.agg #[.string a0_0, .slice A0_1 l0_1.length c0_1, .slice A0_2 l0_2.length c0_2, .string a0_3, .string a0_4]] w fun e w' => e = .returned (.bool r) ∧ Below w.heap.size w w' := by
  have hu29 := Tryz.underlying29
  have hu51 := Tryz.underlying51
  have HR0_1 := Aside0.mk hr0_1
  have HC0_1 := Aside0.mk hc0_1
  clear hr0_1 hc0_1
  have HR0_2 := Aside0.mk hr0_2
  have HC0_2 := Aside0.mk hc0_2
  clear hr0_2 hc0_2
  have HB := Aside0.mk (Below.refl w.heap.size w)
  have H : ((lunetteref20_numbers.f k a0_0).bind fun t177 => ((lunetteref20_tuples.f k a0_0).bind fun bt178 => (if t177 < 0 then (lunetteref20_Check.j0 k t177 true a0_0 l0_1 l0_2 a0_3 a0_4) else (if (l0_2.length : Int) < bt178.1 then (lunetteref20_Check.j0 k t177 true a0_0 l0_1 l0_2 a0_3 a0_4) else (lunetteref20_Check.j0 k t177 (decide ((l0_2.length : Int) > bt178.2)) a0_0 l0_1 l0_2 a0_3 a0_4))))) = some r := h
  clear h
  replace H := Option.bind_eq_some_iff.mp H
  obtain ⟨t177, A20, H⟩ := H
  replace H : ((lunetteref20_tuples.f k a0_0).bind fun bt178 => (if t177 < 0 then (lunetteref20_Check.j0 k t177 true a0_0 l0_1 l0_2 a0_3 a0_4) else (if (l0_2.length : Int) < bt178.1 then (lunetteref20_Check.j0 k t177 true a0_0 l0_1 l0_2 a0_3 a0_4) else (lunetteref20_Check.j0 k t177 (decide ((l0_2.length : Int) > bt178.2)) a0_0 l0_1 l0_2 a0_3 a0_4)))) = some r := H
  have A2 := Aside0.mk A20
  clear A20
  replace H := Option.bind_eq_some_iff.mp H
  obtain ⟨⟨t178, t179⟩, A30, H⟩ := H
  replace H : (if t177 < 0 then (lunetteref20_Check.j0 k t177 true a0_0 l0_1 l0_2 a0_3 a0_4) else (if (l0_2.length : Int) < t178 then (lunetteref20_Check.j0 k t177 true a0_0 l0_1 l0_2 a0_3 a0_4) else (lunetteref20_Check.j0 k t177 (decide ((l0_2.length : Int) > t179)) a0_0 l0_1 l0_2 a0_3 a0_4))) = some r := H
  have A3 := Aside0.mk A30
  clear A30
  have HC4 := Aside0.mk H
  clear H
  go_enter Tryz.func11, Tryz.ntmps11
  go_upto_region 3 with (first | ((with_reducible refine gate_dst (N := 1) rfl ?_); (try (refine gate_guard (by rfl) ?_; dsimp only)); refine box_event ?hg (N := 1) ?hd (cs := #[.string a0_0, .slice A0_1 l0_1.length c0_1, .slice A0_2 l0_2.length c0_2, .string a0_3, .string a0_4]) (t := 29) ?hr ?_; (case hd => rfl); (case hg => rfl); (case hr => first | (go_simp; done) | (go_simp; rfl)); intro gb176 hg w5 hbox hb; have n0_ := Aside0.mk (below_step (by repeat (first | (with_reducible first | exact HB.out | apply below_alloc | apply pw_below_drewN | apply below_drew1) | exact HB.out)) hb); have n1_ := Aside0.mk (hbox); have n2_ := Aside0.mk ((by rw [hg]; exact (below_size (by repeat (first | (with_reducible first | exact HB.out | apply below_alloc | apply pw_below_drewN | apply below_drew1) | exact HB.out))) : w.heap.size ≤ gb176)); have n3_ := Aside0.mk ((by rw [hg]; exact (below_size (by repeat (first | (with_reducible first | exact HB.out | apply below_alloc | apply pw_below_drewN | apply below_drew1) | exact HB.out))) : w.heap.size ≤ gb176)); clear HB; have HB := n0_; have BK176 := n1_; have GW176 := n2_; have GE176 := n3_; clear n0_ n1_ n2_ n3_; clear hb hbox hg; have hcz6_0 : w5.cell? ⟨gb176, 0, none⟩ = some (.string a0_0) := (blk_cell BK176.out 0).trans rfl; have hcz6_1 : w5.cell? ⟨gb176, 1, none⟩ = some (.slice A0_1 l0_1.length c0_1) := (blk_cell BK176.out 1).trans rfl; have hcz6_2 : w5.cell? ⟨gb176, 2, none⟩ = some (.slice A0_2 l0_2.length c0_2) := (blk_cell BK176.out 2).trans rfl; have hcz6_3 : w5.cell? ⟨gb176, 3, none⟩ = some (.string a0_3) := (blk_cell BK176.out 3).trans rfl; have hcz6_4 : w5.cell? ⟨gb176, 4, none⟩ = some (.string a0_4) := (blk_cell BK176.out 4).trans rfl; have hfz6_0 := blk_frozen BK176.out 0; have hfz6_1 := blk_frozen BK176.out 1; have hfz6_2 := blk_frozen BK176.out 2; have hfz6_3 := blk_frozen BK176.out 3; have hfz6_4 := blk_frozen BK176.out 4) | ((with_reducible refine gate_callee (f := 31) rfl ?_); refine goesL_ (some 12) rfl rfl Tryz.func31 (by kernel_rfl) rfl #[.string a0_0] rfl (by (try simp only [List.map_toArray, List.map_cons, List.map_nil]); first | done | rfl | (simp only [List.length_drop, List.length_take]; rfl)) ?_; (with_reducible refine (lunetteref20_numbers.calls k a0_0 t177 _ A2.out).mono ?_); rintro e w' ⟨rfl, ⟨nd, rfl⟩⟩; refine ⟨_, rfl, ?_⟩) | ((with_reducible refine gate_callee (f := 32) rfl ?_); refine goesL_ (some 16) rfl rfl Tryz.func32 (by kernel_rfl) rfl #[.string a0_0] rfl (by (try simp only [List.map_toArray, List.map_cons, List.map_nil]); first | done | rfl | (simp only [List.length_drop, List.length_take]; rfl)) ?_; (with_reducible refine (lunetteref20_tuples.calls k a0_0 t178 t179 _ A3.out).mono ?_); rintro e w' ⟨rfl, ⟨nd, rfl⟩⟩; refine ⟨_, rfl, ?_⟩))
  (try simp only [Act.put, List.setIfInBounds_toArray, List.set_cons_zero, List.set_cons_succ])
  go_cut [34] (fun v34 wc => ∃ (kq : Nat) (x34_3 : Bool), v34 = .bool x34_3 ∧ Aside0 (lunetteref20_Check.j0 kq t177 x34_3 a0_0 l0_1 l0_2 a0_3 a0_4 = some r) ∧ Aside0 (kq ≤ k) ∧ Aside0 (wc.heap[gb176]? = some (.cells #[.string a0_0, (.slice A0_1 l0_1.length c0_1), (.slice A0_2 l0_2.length c0_2), .string a0_3, .string a0_4] 29 (0, 0))) ∧ Aside0 (Below w.heap.size w wc))
  case first =>
    have H := HC4.out
    clear HC4
    by_cases c7 : t177 < 0
    · rw [if_pos c7] at H
      have c7b0 : decide (t177 < 0) = true := decide_eq_true c7
      clear c7
      (first | rw [c7b0] | (simp only [i64_w, i32_w]; rw [c7b0]) | skip)
      have H' := Aside0.mk H
      clear H
      go_wp2
      go_meet
      case rel => exact ⟨_, (true), (by first | rfl | (simp; done) | (simp [*]; done)), H', ⟨by first | omega | exact Nat.le_refl _⟩, ⟨by (with_reducible repeat (first | refine blk_drewN ?_ _ | refine blk_drew ?_ | refine blk_alloc ?_ _)); exact BK176.out⟩, ⟨by repeat (first | (with_reducible first | exact HB.out | apply below_alloc | apply pw_below_drewN | apply below_drew1 | refine below_set ?_ GE176.out) | exact HB.out)⟩⟩
    · rw [if_neg c7] at H
      have c7b0 : decide (t177 < 0) = false := decide_eq_false c7
      clear c7
      (first | rw [c7b0] | (simp only [i64_w, i32_w]; rw [c7b0]) | skip)
      by_cases c8 : (l0_2.length : Int) < t178
      · rw [if_pos c8] at H
        have c8b0 : decide ((l0_2.length : Int) < t178) = true := decide_eq_true c8
        clear c8
        have H' := Aside0.mk H
        clear H
        have hcz9_0 : w5.cell? ⟨gb176, 0, none⟩ = some (.string a0_0) := (blk_cell BK176.out 0).trans rfl
        have hcz9_1 : w5.cell? ⟨gb176, 1, none⟩ = some (.slice A0_1 l0_1.length c0_1) := (blk_cell BK176.out 1).trans rfl
        have hcz9_2 : w5.cell? ⟨gb176, 2, none⟩ = some (.slice A0_2 l0_2.length c0_2) := (blk_cell BK176.out 2).trans rfl
        have hcz9_3 : w5.cell? ⟨gb176, 3, none⟩ = some (.string a0_3) := (blk_cell BK176.out 3).trans rfl
        have hcz9_4 : w5.cell? ⟨gb176, 4, none⟩ = some (.string a0_4) := (blk_cell BK176.out 4).trans rfl
        have hfz9_0 := blk_frozen BK176.out 0
        have hfz9_1 := blk_frozen BK176.out 1
        have hfz9_2 := blk_frozen BK176.out 2
        have hfz9_3 := blk_frozen BK176.out 3
        have hfz9_4 := blk_frozen BK176.out 4
        go_wp2
        go_meet
        case rel => exact ⟨_, (true), (by first | rfl | (simp; done) | (simp [*]; done)), H', ⟨by first | omega | exact Nat.le_refl _⟩, ⟨by (with_reducible repeat (first | refine blk_drewN ?_ _ | refine blk_drew ?_ | refine blk_alloc ?_ _)); exact BK176.out⟩, ⟨by repeat (first | (with_reducible first | exact HB.out | apply below_alloc | apply pw_below_drewN | apply below_drew1 | refine below_set ?_ GE176.out) | exact HB.out)⟩⟩
      · rw [if_neg c8] at H
        have c8b0 : decide ((l0_2.length : Int) < t178) = false := decide_eq_false c8
        clear c8
        have H' := Aside0.mk H
        clear H
        have hcz10_0 : w5.cell? ⟨gb176, 0, none⟩ = some (.string a0_0) := (blk_cell BK176.out 0).trans rfl
        have hcz10_1 : w5.cell? ⟨gb176, 1, none⟩ = some (.slice A0_1 l0_1.length c0_1) := (blk_cell BK176.out 1).trans rfl
        have hcz10_2 : w5.cell? ⟨gb176, 2, none⟩ = some (.slice A0_2 l0_2.length c0_2) := (blk_cell BK176.out 2).trans rfl
        have hcz10_3 : w5.cell? ⟨gb176, 3, none⟩ = some (.string a0_3) := (blk_cell BK176.out 3).trans rfl
        have hcz10_4 : w5.cell? ⟨gb176, 4, none⟩ = some (.string a0_4) := (blk_cell BK176.out 4).trans rfl
        have hfz10_0 := blk_frozen BK176.out 0
        have hfz10_1 := blk_frozen BK176.out 1
        have hfz10_2 := blk_frozen BK176.out 2
        have hfz10_3 := blk_frozen BK176.out 3
        have hfz10_4 := blk_frozen BK176.out 4
        go_wp2
        go_meet
        case rel => exact ⟨_, (decide ((l0_2.length : Int) > t179)), (by first | rfl | (simp; done) | (simp [*]; done)), H', ⟨by first | omega | exact Nat.le_refl _⟩, ⟨by (with_reducible repeat (first | refine blk_drewN ?_ _ | refine blk_drew ?_ | refine blk_alloc ?_ _)); exact BK176.out⟩, ⟨by repeat (first | (with_reducible first | exact HB.out | apply below_alloc | apply pw_below_drewN | apply below_drew1 | refine below_set ?_ GE176.out) | exact HB.out)⟩⟩
  case rest =>
    clear HC4
    try clear c1
    try clear p2
    try clear c3
    try clear c7
    try clear c7b0
    try clear c8
    try clear c8b0
    try clear hcz10_0
    try clear hcz10_1
    try clear hcz10_2
    try clear hcz10_3
    try clear hcz10_4
    try clear hcz6_0
    try clear hcz6_1
    try clear hcz6_2
    try clear hcz6_3
    try clear hcz6_4
    try clear hcz9_0
    try clear hcz9_1
    try clear hcz9_2
    try clear hcz9_3
    try clear hcz9_4
    try clear hfz10_0
    try clear hfz10_1
    try clear hfz10_2
    try clear hfz10_3
    try clear hfz10_4
    try clear hfz6_0
    try clear hfz6_1
    try clear hfz6_2
    try clear hfz6_3
    try clear hfz6_4
    try clear hfz9_0
    try clear hfz9_1
    try clear hfz9_2
    try clear hfz9_3
    try clear hfz9_4
    obtain ⟨kq, x34_3, rfl, HA, HJ3, BK176, HB⟩ := hcut
    cases kq with
    | zero => exact absurd HA.out (by simp [lunetteref20_Check.j0])
    | succ kj3 =>
      have H := HA.out
      clear HA
      simp only [lunetteref20_Check.j0] at H
      by_cases c11 : x34_3 = true
      · subst c11
        have H1 : (some false) = some r := by rw [if_pos rfl] at H; exact H
        clear H
        have H := H1
        clear H1
        obtain rfl := Option.some.inj H
        go_wp2
        go_ret
        exact ⟨by first | rfl | (simp [errW_none, errW_some] <;> rfl) | (simp [*, errW_none, errW_some] <;> rfl), by repeat (first | (with_reducible first | exact HB.out | apply below_alloc | apply pw_below_drewN | apply below_drew1 | refine below_set ?_ GE176.out) | exact HB.out)⟩
      · replace c11 := Bool.eq_false_iff.mpr c11
        subst c11
        have H1 : (if t177 = 9 then (if ((l0_1.length : Int) % 2) = 1 then (lunetteref20_Check.j1 kj3 true a0_0 l0_1 l0_2 a0_3 a0_4) else (if (l0_1.length : Int) > 16 then (lunetteref20_Check.j1 kj3 true a0_0 l0_1 l0_2 a0_3 a0_4) else (if t177 < 9 then (lunetteref20_Check.j1 kj3 ((l0_1.length : Int) != t177) a0_0 l0_1 l0_2 a0_3 a0_4) else (lunetteref20_Check.j1 kj3 false a0_0 l0_1 l0_2 a0_3 a0_4)))) else (if t177 < 9 then (lunetteref20_Check.j1 kj3 ((l0_1.length : Int) != t177) a0_0 l0_1 l0_2 a0_3 a0_4) else (lunetteref20_Check.j1 kj3 false a0_0 l0_1 l0_2 a0_3 a0_4))) = some r := by rw [if_neg (show ¬ (false = true) by decide)] at H; exact H
        clear H
        have H := H1
        clear H1
        have HC12 := Aside0.mk H
        clear H
        go_upto_region 5 with (fail)
        go_cut [60] (fun v60 wc => ∃ (kq : Nat) (x60_11 : Bool), v60 = .bool x60_11 ∧ Aside0 (lunetteref20_Check.j1 kq x60_11 a0_0 l0_1 l0_2 a0_3 a0_4 = some r) ∧ Aside0 (kq ≤ kj3) ∧ Aside0 (wc.heap[gb176]? = some (.cells #[.string a0_0, (.slice A0_1 l0_1.length c0_1), (.slice A0_2 l0_2.length c0_2), .string a0_3, .string a0_4] 29 (0, 0))) ∧ Aside0 (Below w.heap.size w wc))
        case first =>
          have H := HC12.out
          clear HC12
          by_cases c13 : t177 = 9
          · rw [if_pos c13] at H
            have c13b0 : (t177 == 9) = true := beq_iff_eq.mpr c13
            have c13b1 : (t177 != 9) = false := bne_eq_false_iff_eq.mpr c13
            clear c13
            (first | rw [c13b0] | (simp only [i64_w, i32_w]; rw [c13b0]) | skip)
            by_cases c14 : ((l0_1.length : Int) % 2) = 1
            · rw [if_pos c14] at H
              have c14b0 : (((l0_1.length : Int) % 2) == 1) = true := beq_iff_eq.mpr c14
              have c14b1 : (((l0_1.length : Int) % 2) != 1) = false := bne_eq_false_iff_eq.mpr c14
              clear c14
              have H' := Aside0.mk H
              clear H
              have hcz15_0 : wc.cell? ⟨gb176, 0, none⟩ = some (.string a0_0) := (blk_cell BK176.out 0).trans rfl
              have hcz15_1 : wc.cell? ⟨gb176, 1, none⟩ = some (.slice A0_1 l0_1.length c0_1) := (blk_cell BK176.out 1).trans rfl
              have hcz15_2 : wc.cell? ⟨gb176, 2, none⟩ = some (.slice A0_2 l0_2.length c0_2) := (blk_cell BK176.out 2).trans rfl
              have hcz15_3 : wc.cell? ⟨gb176, 3, none⟩ = some (.string a0_3) := (blk_cell BK176.out 3).trans rfl
              have hcz15_4 : wc.cell? ⟨gb176, 4, none⟩ = some (.string a0_4) := (blk_cell BK176.out 4).trans rfl
              have hfz15_0 := blk_frozen BK176.out 0
              have hfz15_1 := blk_frozen BK176.out 1
              have hfz15_2 := blk_frozen BK176.out 2
              have hfz15_3 := blk_frozen BK176.out 3
              have hfz15_4 := blk_frozen BK176.out 4
              go_wp2
              go_meet
              case rel => exact ⟨_, (true), (by first | rfl | (simp; done) | (simp [*]; done)), H', ⟨by have := HJ3.out; first | omega | exact Nat.le_refl _⟩, ⟨by (with_reducible repeat (first | refine blk_drewN ?_ _ | refine blk_drew ?_ | refine blk_alloc ?_ _)); exact BK176.out⟩, ⟨by repeat (first | (with_reducible first | exact HB.out | apply below_alloc | apply pw_below_drewN | apply below_drew1 | refine below_set ?_ GE176.out) | exact HB.out)⟩⟩
            · rw [if_neg c14] at H
              have c14b0 : (((l0_1.length : Int) % 2) == 1) = false := beq_eq_false_iff_ne.mpr c14
              have c14b1 : (((l0_1.length : Int) % 2) != 1) = true := bne_iff_ne.mpr c14
              by_cases c16 : (l0_1.length : Int) > 16
              · rw [if_pos c16] at H
                have c16b0 : decide (16 < (l0_1.length : Int)) = true := decide_eq_true c16
                have c16b1 : decide (16 < l0_1.length) = true := decide_eq_true (by omega)
                clear c16
                have H' := Aside0.mk H
                clear H
                have hcz17_0 : wc.cell? ⟨gb176, 0, none⟩ = some (.string a0_0) := (blk_cell BK176.out 0).trans rfl
                have hcz17_1 : wc.cell? ⟨gb176, 1, none⟩ = some (.slice A0_1 l0_1.length c0_1) := (blk_cell BK176.out 1).trans rfl
                have hcz17_2 : wc.cell? ⟨gb176, 2, none⟩ = some (.slice A0_2 l0_2.length c0_2) := (blk_cell BK176.out 2).trans rfl
                have hcz17_3 : wc.cell? ⟨gb176, 3, none⟩ = some (.string a0_3) := (blk_cell BK176.out 3).trans rfl
                have hcz17_4 : wc.cell? ⟨gb176, 4, none⟩ = some (.string a0_4) := (blk_cell BK176.out 4).trans rfl
                have hfz17_0 := blk_frozen BK176.out 0
                have hfz17_1 := blk_frozen BK176.out 1
                have hfz17_2 := blk_frozen BK176.out 2
                have hfz17_3 := blk_frozen BK176.out 3
                have hfz17_4 := blk_frozen BK176.out 4
                go_wp2
                go_meet
                case rel => exact ⟨_, (true), (by first | rfl | (simp; done) | (simp [*]; done)), H', ⟨by have := HJ3.out; first | omega | exact Nat.le_refl _⟩, ⟨by (with_reducible repeat (first | refine blk_drewN ?_ _ | refine blk_drew ?_ | refine blk_alloc ?_ _)); exact BK176.out⟩, ⟨by repeat (first | (with_reducible first | exact HB.out | apply below_alloc | apply pw_below_drewN | apply below_drew1 | refine below_set ?_ GE176.out) | exact HB.out)⟩⟩
              · rw [if_neg c16] at H
                have c16b0 : decide (16 < (l0_1.length : Int)) = false := decide_eq_false c16
                have c16b1 : decide (16 < l0_1.length) = false := decide_eq_false (by omega)
                clear c16
                by_cases c18 : t177 < 9
                · rw [if_pos c18] at H
                  have c18b0 : decide (t177 < 9) = true := decide_eq_true c18
                  clear c18
                  have H' := Aside0.mk H
                  clear H
                  have hcz19_0 : wc.cell? ⟨gb176, 0, none⟩ = some (.string a0_0) := (blk_cell BK176.out 0).trans rfl
                  have hcz19_1 : wc.cell? ⟨gb176, 1, none⟩ = some (.slice A0_1 l0_1.length c0_1) := (blk_cell BK176.out 1).trans rfl
                  have hcz19_2 : wc.cell? ⟨gb176, 2, none⟩ = some (.slice A0_2 l0_2.length c0_2) := (blk_cell BK176.out 2).trans rfl
                  have hcz19_3 : wc.cell? ⟨gb176, 3, none⟩ = some (.string a0_3) := (blk_cell BK176.out 3).trans rfl
                  have hcz19_4 : wc.cell? ⟨gb176, 4, none⟩ = some (.string a0_4) := (blk_cell BK176.out 4).trans rfl
                  have hfz19_0 := blk_frozen BK176.out 0
                  have hfz19_1 := blk_frozen BK176.out 1
                  have hfz19_2 := blk_frozen BK176.out 2
                  have hfz19_3 := blk_frozen BK176.out 3
                  have hfz19_4 := blk_frozen BK176.out 4
                  go_wp2
                  go_meet
                  case rel => exact ⟨_, (((l0_1.length : Int) != t177)), (by first | rfl | (simp; done) | (simp [*]; done)), H', ⟨by have := HJ3.out; first | omega | exact Nat.le_refl _⟩, ⟨by (with_reducible repeat (first | refine blk_drewN ?_ _ | refine blk_drew ?_ | refine blk_alloc ?_ _)); exact BK176.out⟩, ⟨by repeat (first | (with_reducible first | exact HB.out | apply below_alloc | apply pw_below_drewN | apply below_drew1 | refine below_set ?_ GE176.out) | exact HB.out)⟩⟩
                · rw [if_neg c18] at H
                  have c18b0 : decide (t177 < 9) = false := decide_eq_false c18
                  clear c18
                  have H' := Aside0.mk H
                  clear H
                  have hcz20_0 : wc.cell? ⟨gb176, 0, none⟩ = some (.string a0_0) := (blk_cell BK176.out 0).trans rfl
                  have hcz20_1 : wc.cell? ⟨gb176, 1, none⟩ = some (.slice A0_1 l0_1.length c0_1) := (blk_cell BK176.out 1).trans rfl
                  have hcz20_2 : wc.cell? ⟨gb176, 2, none⟩ = some (.slice A0_2 l0_2.length c0_2) := (blk_cell BK176.out 2).trans rfl
                  have hcz20_3 : wc.cell? ⟨gb176, 3, none⟩ = some (.string a0_3) := (blk_cell BK176.out 3).trans rfl
                  have hcz20_4 : wc.cell? ⟨gb176, 4, none⟩ = some (.string a0_4) := (blk_cell BK176.out 4).trans rfl
                  have hfz20_0 := blk_frozen BK176.out 0
                  have hfz20_1 := blk_frozen BK176.out 1
                  have hfz20_2 := blk_frozen BK176.out 2
                  have hfz20_3 := blk_frozen BK176.out 3
                  have hfz20_4 := blk_frozen BK176.out 4
                  go_wp2
                  go_meet
                  case rel => exact ⟨_, (false), (by first | rfl | (simp; done) | (simp [*]; done)), H', ⟨by have := HJ3.out; first | omega | exact Nat.le_refl _⟩, ⟨by (with_reducible repeat (first | refine blk_drewN ?_ _ | refine blk_drew ?_ | refine blk_alloc ?_ _)); exact BK176.out⟩, ⟨by repeat (first | (with_reducible first | exact HB.out | apply below_alloc | apply pw_below_drewN | apply below_drew1 | refine below_set ?_ GE176.out) | exact HB.out)⟩⟩
          · rw [if_neg c13] at H
            have c13b0 : (t177 == 9) = false := beq_eq_false_iff_ne.mpr c13
            have c13b1 : (t177 != 9) = true := bne_iff_ne.mpr c13
            (first | rw [c13b0] | (simp only [i64_w, i32_w]; rw [c13b0]) | skip)
            by_cases c21 : t177 < 9
            · rw [if_pos c21] at H
              have c21b0 : decide (t177 < 9) = true := decide_eq_true c21
              clear c21
              have H' := Aside0.mk H
              clear H
              have hcz22_0 : wc.cell? ⟨gb176, 0, none⟩ = some (.string a0_0) := (blk_cell BK176.out 0).trans rfl
              have hcz22_1 : wc.cell? ⟨gb176, 1, none⟩ = some (.slice A0_1 l0_1.length c0_1) := (blk_cell BK176.out 1).trans rfl
              have hcz22_2 : wc.cell? ⟨gb176, 2, none⟩ = some (.slice A0_2 l0_2.length c0_2) := (blk_cell BK176.out 2).trans rfl
              have hcz22_3 : wc.cell? ⟨gb176, 3, none⟩ = some (.string a0_3) := (blk_cell BK176.out 3).trans rfl
              have hcz22_4 : wc.cell? ⟨gb176, 4, none⟩ = some (.string a0_4) := (blk_cell BK176.out 4).trans rfl
              have hfz22_0 := blk_frozen BK176.out 0
              have hfz22_1 := blk_frozen BK176.out 1
              have hfz22_2 := blk_frozen BK176.out 2
              have hfz22_3 := blk_frozen BK176.out 3
              have hfz22_4 := blk_frozen BK176.out 4
              go_wp2
              go_meet
              case rel => exact ⟨_, (((l0_1.length : Int) != t177)), (by first | rfl | (simp; done) | (simp [*]; done)), H', ⟨by have := HJ3.out; first | omega | exact Nat.le_refl _⟩, ⟨by (with_reducible repeat (first | refine blk_drewN ?_ _ | refine blk_drew ?_ | refine blk_alloc ?_ _)); exact BK176.out⟩, ⟨by repeat (first | (with_reducible first | exact HB.out | apply below_alloc | apply pw_below_drewN | apply below_drew1 | refine below_set ?_ GE176.out) | exact HB.out)⟩⟩
            · rw [if_neg c21] at H
              have c21b0 : decide (t177 < 9) = false := decide_eq_false c21
              clear c21
              have H' := Aside0.mk H
              clear H
              go_wp2
              go_meet
              case rel => exact ⟨_, (false), (by first | rfl | (simp; done) | (simp [*]; done)), H', ⟨by have := HJ3.out; first | omega | exact Nat.le_refl _⟩, ⟨by (with_reducible repeat (first | refine blk_drewN ?_ _ | refine blk_drew ?_ | refine blk_alloc ?_ _)); exact BK176.out⟩, ⟨by repeat (first | (with_reducible first | exact HB.out | apply below_alloc | apply pw_below_drewN | apply below_drew1 | refine below_set ?_ GE176.out) | exact HB.out)⟩⟩
        case rest =>
          clear HC12
          try clear c1
          try clear c2
          try clear p2
          try clear c3
          try clear c7
          try clear c7b0
          try clear c8
          try clear c8b0
          try clear c11
          try clear c13
          try clear c13b0
          try clear c13b1
          try clear c14
          try clear c14b0
          try clear c14b1
          try clear c16
          try clear c16b0
          try clear c16b1
          try clear c18
          try clear c18b0
          try clear c21
          try clear c21b0
          try clear hcz10_0
          try clear hcz10_1
          try clear hcz10_2
          try clear hcz10_3
          try clear hcz10_4
          try clear hcz15_0
          try clear hcz15_1
          try clear hcz15_2
          try clear hcz15_3
          try clear hcz15_4
          try clear hcz17_0
          try clear hcz17_1
          try clear hcz17_2
          try clear hcz17_3
          try clear hcz17_4
          try clear hcz19_0
          try clear hcz19_1
          try clear hcz19_2
          try clear hcz19_3
          try clear hcz19_4
          try clear hcz20_0
          try clear hcz20_1
          try clear hcz20_2
          try clear hcz20_3
          try clear hcz20_4
          try clear hcz22_0
          try clear hcz22_1
          try clear hcz22_2
          try clear hcz22_3
          try clear hcz22_4
          try clear hcz6_0
          try clear hcz6_1
          try clear hcz6_2
          try clear hcz6_3
          try clear hcz6_4
          try clear hcz9_0
          try clear hcz9_1
          try clear hcz9_2
          try clear hcz9_3
          try clear hcz9_4
          try clear hfz10_0
          try clear hfz10_1
          try clear hfz10_2
          try clear hfz10_3
          try clear hfz10_4
          try clear hfz15_0
          try clear hfz15_1
          try clear hfz15_2
          try clear hfz15_3
          try clear hfz15_4
          try clear hfz17_0
          try clear hfz17_1
          try clear hfz17_2
          try clear hfz17_3
          try clear hfz17_4
          try clear hfz19_0
          try clear hfz19_1
          try clear hfz19_2
          try clear hfz19_3
          try clear hfz19_4
          try clear hfz20_0
          try clear hfz20_1
          try clear hfz20_2
          try clear hfz20_3
          try clear hfz20_4
          try clear hfz22_0
          try clear hfz22_1
          try clear hfz22_2
          try clear hfz22_3
          try clear hfz22_4
          try clear hfz6_0
          try clear hfz6_1
          try clear hfz6_2
          try clear hfz6_3
          try clear hfz6_4
          try clear hfz9_0
          try clear hfz9_1
          try clear hfz9_2
          try clear hfz9_3
          try clear hfz9_4
          try clear p2
          obtain ⟨kq, x60_11, rfl, HA, HJ11, BK176, HB⟩ := hcut
          cases kq with
          | zero => exact absurd HA.out (by simp [lunetteref20_Check.j1])
          | succ kj11 =>
            have H := HA.out
            clear HA
            simp only [lunetteref20_Check.j1] at H
            by_cases c23 : x60_11 = true
            · subst c23
              have H1 : (some false) = some r := by rw [if_pos rfl] at H; exact H
              clear H
              have H := H1
              clear H1
              obtain rfl := Option.some.inj H
              go_wp2
              go_ret
              exact ⟨by first | rfl | (simp [errW_none, errW_some] <;> rfl) | (simp [*, errW_none, errW_some] <;> rfl), by repeat (first | (with_reducible first | exact HB.out | apply below_alloc | apply pw_below_drewN | apply below_drew1 | refine below_set ?_ GE176.out) | exact HB.out)⟩
            · replace c23 := Bool.eq_false_iff.mpr c23
              subst c23
              have H1 : (lunetteref20_Check.l0 kj11 0 a0_0 l0_1 l0_2 a0_3 a0_4) = some r := by rw [if_neg (show ¬ (false = true) by decide)] at H; exact H
              clear H
              have H := H1
              clear H1
              have H' := Aside0.mk H
              clear H
              go_wp2
              go_loopg [6] kj11 (fun kq v6 w' => ∃ (x6_3 : Int), v6 = .int .i64 x6_3 ∧ Aside0 (lunetteref20_Check.l0 kq x6_3 a0_0 l0_1 l0_2 a0_3 a0_4 = some r) ∧ Aside0 (kq ≤ kj11) ∧ Aside0 (w'.heap[gb176]? = some (.cells #[.string a0_0, (.slice A0_1 l0_1.length c0_1), (.slice A0_2 l0_2.length c0_2), .string a0_3, .string a0_4] 29 (0, 0))) ∧ Aside0 (Below w.heap.size w w'))
              case atStart => exact ⟨(0), (by first | rfl | (simp; done) | (simp [*]; done)), H', ⟨Nat.le_refl _⟩, ⟨by (with_reducible repeat (first | refine blk_drewN ?_ _ | refine blk_drew ?_ | refine blk_alloc ?_ _)); exact BK176.out⟩, ⟨by repeat (first | (with_reducible first | exact HB.out | apply below_alloc | apply pw_below_drewN | apply below_drew1 | refine below_set ?_ GE176.out) | exact HB.out)⟩⟩
              case round =>
                clear H'
                try clear c1
                try clear c2
                try clear p2
                try clear c3
                try clear c7
                try clear c7b0
                try clear c8
                try clear c8b0
                try clear c11
                try clear c13
                try clear c13b0
                try clear c13b1
                try clear c14
                try clear c14b0
                try clear c14b1
                try clear c16
                try clear c16b0
                try clear c16b1
                try clear c18
                try clear c18b0
                try clear c21
                try clear c21b0
                try clear c23
                try clear hcz10_0
                try clear hcz10_1
                try clear hcz10_2
                try clear hcz10_3
                try clear hcz10_4
                try clear hcz15_0
                try clear hcz15_1
                try clear hcz15_2
                try clear hcz15_3
                try clear hcz15_4
                try clear hcz17_0
                try clear hcz17_1
                try clear hcz17_2
                try clear hcz17_3
                try clear hcz17_4
                try clear hcz19_0
                try clear hcz19_1
                try clear hcz19_2
                try clear hcz19_3
                try clear hcz19_4
                try clear hcz20_0
                try clear hcz20_1
                try clear hcz20_2
                try clear hcz20_3
                try clear hcz20_4
                try clear hcz22_0
                try clear hcz22_1
                try clear hcz22_2
                try clear hcz22_3
                try clear hcz22_4
                try clear hcz6_0
                try clear hcz6_1
                try clear hcz6_2
                try clear hcz6_3
                try clear hcz6_4
                try clear hcz9_0
                try clear hcz9_1
                try clear hcz9_2
                try clear hcz9_3
                try clear hcz9_4
                try clear hfz10_0
                try clear hfz10_1
                try clear hfz10_2
                try clear hfz10_3
                try clear hfz10_4
                try clear hfz15_0
                try clear hfz15_1
                try clear hfz15_2
                try clear hfz15_3
                try clear hfz15_4
                try clear hfz17_0
                try clear hfz17_1
                try clear hfz17_2
                try clear hfz17_3
                try clear hfz17_4
                try clear hfz19_0
                try clear hfz19_1
                try clear hfz19_2
                try clear hfz19_3
                try clear hfz19_4
                try clear hfz20_0
                try clear hfz20_1
                try clear hfz20_2
                try clear hfz20_3
                try clear hfz20_4
                try clear hfz22_0
                try clear hfz22_1
                try clear hfz22_2
                try clear hfz22_3
                try clear hfz22_4
                try clear hfz6_0
                try clear hfz6_1
                try clear hfz6_2
                try clear hfz6_3
                try clear hfz6_4
                try clear hfz9_0
                try clear hfz9_1
                try clear hfz9_2
                try clear hfz9_3
                try clear hfz9_4
                try clear p2
                obtain ⟨x6_3, rfl, HA, HK3, BK176, HB⟩ := hrel
                cases gk with
                | zero => exact absurd HA.out (by simp [lunetteref20_Check.l0])
                | succ k3 =>
                  have H := HA.out
                  clear HA
                  simp only [lunetteref20_Check.l0] at H
                  by_cases c24 : x6_3 < (l0_1.length : Int)
                  · rw [if_pos c24] at H
                    have c24b0 : decide (x6_3 < (l0_1.length : Int)) = true := decide_eq_true c24
                    clear c24
                    by_cases c25 : 0 ≤ x6_3
                    · rw [if_pos c25] at H
                      have c25b0 : decide (0 ≤ x6_3) = true := decide_eq_true c25
                      clear c25
                      by_cases c26 : (rd l0_1 x6_3) < 0
                      · rw [if_pos c26] at H
                        have c26b0 : decide ((rd l0_1 x6_3) < 0) = true := decide_eq_true c26
                        clear c26
                        obtain rfl := Option.some.inj H
                        have hcz27_0 : wr.cell? ⟨gb176, 0, none⟩ = some (.string a0_0) := (blk_cell BK176.out 0).trans rfl
                        have hcz27_1 : wr.cell? ⟨gb176, 1, none⟩ = some (.slice A0_1 l0_1.length c0_1) := (blk_cell BK176.out 1).trans rfl
                        have hcz27_2 : wr.cell? ⟨gb176, 2, none⟩ = some (.slice A0_2 l0_2.length c0_2) := (blk_cell BK176.out 2).trans rfl
                        have hcz27_3 : wr.cell? ⟨gb176, 3, none⟩ = some (.string a0_3) := (blk_cell BK176.out 3).trans rfl
                        have hcz27_4 : wr.cell? ⟨gb176, 4, none⟩ = some (.string a0_4) := (blk_cell BK176.out 4).trans rfl
                        have hfz27_0 := blk_frozen BK176.out 0
                        have hfz27_1 := blk_frozen BK176.out 1
                        have hfz27_2 := blk_frozen BK176.out 2
                        have hfz27_3 := blk_frozen BK176.out 3
                        have hfz27_4 := blk_frozen BK176.out 4
                        have p180 : 0 ≤ (x6_3 : Int) := of_decide_eq_true (by first | (with_reducible assumption) | assumption)
                        have q180 : x6_3 < (l0_1.length : Int) := of_decide_eq_true (by first | (with_reducible assumption) | assumption)
                        obtain ⟨ad180, e180, hx180_0⟩ := Kd.at_int HR0_1.out x6_3 p180 q180
                        cases e180
                        replace hx180_0 := (HB.out.cell (World.block_lt_of_cell? w _ hx180_0)).trans hx180_0
                        replace p180 := eq_true p180
                        replace q180 := eq_true q180
                        go_wp2
                        go_ret
                        exact ⟨by first | rfl | (simp [errW_none, errW_some] <;> rfl) | (simp [*, errW_none, errW_some] <;> rfl), by repeat (first | (with_reducible first | exact HB.out | apply below_alloc | apply pw_below_drewN | apply below_drew1 | refine below_set ?_ GE176.out) | exact HB.out)⟩
                      · rw [if_neg c26] at H
                        have c26b0 : decide ((rd l0_1 x6_3) < 0) = false := decide_eq_false c26
                        clear c26
                        by_cases c28 : (rd l0_1 x6_3) > 1000000
                        · rw [if_pos c28] at H
                          have c28b0 : decide (1000000 < (rd l0_1 x6_3)) = true := decide_eq_true c28
                          clear c28
                          obtain rfl := Option.some.inj H
                          have hcz29_0 : wr.cell? ⟨gb176, 0, none⟩ = some (.string a0_0) := (blk_cell BK176.out 0).trans rfl
                          have hcz29_1 : wr.cell? ⟨gb176, 1, none⟩ = some (.slice A0_1 l0_1.length c0_1) := (blk_cell BK176.out 1).trans rfl
                          have hcz29_2 : wr.cell? ⟨gb176, 2, none⟩ = some (.slice A0_2 l0_2.length c0_2) := (blk_cell BK176.out 2).trans rfl
                          have hcz29_3 : wr.cell? ⟨gb176, 3, none⟩ = some (.string a0_3) := (blk_cell BK176.out 3).trans rfl
                          have hcz29_4 : wr.cell? ⟨gb176, 4, none⟩ = some (.string a0_4) := (blk_cell BK176.out 4).trans rfl
                          have hfz29_0 := blk_frozen BK176.out 0
                          have hfz29_1 := blk_frozen BK176.out 1
                          have hfz29_2 := blk_frozen BK176.out 2
                          have hfz29_3 := blk_frozen BK176.out 3
                          have hfz29_4 := blk_frozen BK176.out 4
                          have p180 : 0 ≤ (x6_3 : Int) := of_decide_eq_true (by first | (with_reducible assumption) | assumption)
                          have q180 : x6_3 < (l0_1.length : Int) := of_decide_eq_true (by first | (with_reducible assumption) | assumption)
                          obtain ⟨ad180, e180, hx180_0⟩ := Kd.at_int HR0_1.out x6_3 p180 q180
                          cases e180
                          replace hx180_0 := (HB.out.cell (World.block_lt_of_cell? w _ hx180_0)).trans hx180_0
                          replace p180 := eq_true p180
                          replace q180 := eq_true q180
                          have p181 : 0 ≤ (x6_3 : Int) := of_decide_eq_true (by first | (with_reducible assumption) | assumption)
                          have q181 : x6_3 < (l0_1.length : Int) := of_decide_eq_true (by first | (with_reducible assumption) | assumption)
                          obtain ⟨ad181, e181, hx181_0⟩ := Kd.at_int HR0_1.out x6_3 p181 q181
                          obtain rfl : ad180 = ad181 := (by injection e181)
                          replace hx181_0 := (HB.out.cell (World.block_lt_of_cell? w _ hx181_0)).trans hx181_0
                          replace p181 := eq_true p181
                          replace q181 := eq_true q181
                          go_wp2
                          go_ret
                          exact ⟨by first | rfl | (simp [errW_none, errW_some] <;> rfl) | (simp [*, errW_none, errW_some] <;> rfl), by repeat (first | (with_reducible first | exact HB.out | apply below_alloc | apply pw_below_drewN | apply below_drew1 | refine below_set ?_ GE176.out) | exact HB.out)⟩
                        · rw [if_neg c28] at H
                          have c28b0 : decide (1000000 < (rd l0_1 x6_3)) = false := decide_eq_false c28
                          clear c28
                          have H' := Aside0.mk H
                          clear H
                          have hcz30_0 : wr.cell? ⟨gb176, 0, none⟩ = some (.string a0_0) := (blk_cell BK176.out 0).trans rfl
                          have hcz30_1 : wr.cell? ⟨gb176, 1, none⟩ = some (.slice A0_1 l0_1.length c0_1) := (blk_cell BK176.out 1).trans rfl
                          have hcz30_2 : wr.cell? ⟨gb176, 2, none⟩ = some (.slice A0_2 l0_2.length c0_2) := (blk_cell BK176.out 2).trans rfl
                          have hcz30_3 : wr.cell? ⟨gb176, 3, none⟩ = some (.string a0_3) := (blk_cell BK176.out 3).trans rfl
                          have hcz30_4 : wr.cell? ⟨gb176, 4, none⟩ = some (.string a0_4) := (blk_cell BK176.out 4).trans rfl
                          have hfz30_0 := blk_frozen BK176.out 0
                          have hfz30_1 := blk_frozen BK176.out 1
                          have hfz30_2 := blk_frozen BK176.out 2
                          have hfz30_3 := blk_frozen BK176.out 3
                          have hfz30_4 := blk_frozen BK176.out 4
                          have p180 : 0 ≤ (x6_3 : Int) := of_decide_eq_true (by first | (with_reducible assumption) | assumption)
                          have q180 : x6_3 < (l0_1.length : Int) := of_decide_eq_true (by first | (with_reducible assumption) | assumption)
                          obtain ⟨ad180, e180, hx180_0⟩ := Kd.at_int HR0_1.out x6_3 p180 q180
                          cases e180
                          replace hx180_0 := (HB.out.cell (World.block_lt_of_cell? w _ hx180_0)).trans hx180_0
                          replace p180 := eq_true p180
                          replace q180 := eq_true q180
                          have p181 : 0 ≤ (x6_3 : Int) := of_decide_eq_true (by first | (with_reducible assumption) | assumption)
                          have q181 : x6_3 < (l0_1.length : Int) := of_decide_eq_true (by first | (with_reducible assumption) | assumption)
                          obtain ⟨ad181, e181, hx181_0⟩ := Kd.at_int HR0_1.out x6_3 p181 q181
                          obtain rfl : ad180 = ad181 := (by injection e181)
                          replace hx181_0 := (HB.out.cell (World.block_lt_of_cell? w _ hx181_0)).trans hx181_0
                          replace p181 := eq_true p181
                          replace q181 := eq_true q181
                          go_wp2
                          go_roundg k3
                          case measure => have := HJ3.out; have := HJ11.out; have := HK3.out; omega
                          case rel => exact ⟨(wrap64 (x6_3 + 1)), (by first | rfl | (simp; done) | (simp [*]; done)), H', ⟨by have := HJ3.out; have := HJ11.out; have := HK3.out; omega⟩, ⟨by (with_reducible repeat (first | refine blk_drewN ?_ _ | refine blk_drew ?_ | refine blk_alloc ?_ _)); exact BK176.out⟩, ⟨by repeat (first | (with_reducible first | exact HB.out | apply below_alloc | apply pw_below_drewN | apply below_drew1 | refine below_set ?_ GE176.out) | exact HB.out)⟩⟩
                    · rw [if_neg c25] at H
                      exact absurd H (by simp)
                  · rw [if_neg c24] at H
                    have c24b0 : decide (x6_3 < (l0_1.length : Int)) = false := decide_eq_false c24
                    clear c24
                    have H' := Aside0.mk H
                    clear H
                    have hcz31_0 : wr.cell? ⟨gb176, 0, none⟩ = some (.string a0_0) := (blk_cell BK176.out 0).trans rfl
                    have hcz31_1 : wr.cell? ⟨gb176, 1, none⟩ = some (.slice A0_1 l0_1.length c0_1) := (blk_cell BK176.out 1).trans rfl
                    have hcz31_2 : wr.cell? ⟨gb176, 2, none⟩ = some (.slice A0_2 l0_2.length c0_2) := (blk_cell BK176.out 2).trans rfl
                    have hcz31_3 : wr.cell? ⟨gb176, 3, none⟩ = some (.string a0_3) := (blk_cell BK176.out 3).trans rfl
                    have hcz31_4 : wr.cell? ⟨gb176, 4, none⟩ = some (.string a0_4) := (blk_cell BK176.out 4).trans rfl
                    have hfz31_0 := blk_frozen BK176.out 0
                    have hfz31_1 := blk_frozen BK176.out 1
                    have hfz31_2 := blk_frozen BK176.out 2
                    have hfz31_3 := blk_frozen BK176.out 3
                    have hfz31_4 := blk_frozen BK176.out 4
                    go_wp2
                    go_loopg [7] k3 (fun kq v7 w' => ∃ (x7_4 : Int), v7 = .int .i64 x7_4 ∧ Aside0 (lunetteref20_Check.l1 kq x7_4 a0_0 l0_1 l0_2 a0_3 a0_4 = some r) ∧ Aside0 (kq ≤ k3) ∧ Aside0 (w'.heap[gb176]? = some (.cells #[.string a0_0, (.slice A0_1 l0_1.length c0_1), (.slice A0_2 l0_2.length c0_2), .string a0_3, .string a0_4] 29 (0, 0))) ∧ Aside0 (Below w.heap.size w w'))
                    case atStart => exact ⟨(0), (by first | rfl | (simp; done) | (simp [*]; done)), H', ⟨Nat.le_refl _⟩, ⟨by (with_reducible repeat (first | refine blk_drewN ?_ _ | refine blk_drew ?_ | refine blk_alloc ?_ _)); exact BK176.out⟩, ⟨by repeat (first | (with_reducible first | exact HB.out | apply below_alloc | apply pw_below_drewN | apply below_drew1 | refine below_set ?_ GE176.out) | exact HB.out)⟩⟩
                    case round =>
                      clear H'
                      try clear c1
                      try clear p1
                      try clear q1
                      try clear hx1
                      try clear c2
                      try clear p2
                      try clear c3
                      try clear p6
                      try clear c7
                      try clear c7b0
                      try clear c8
                      try clear c8b0
                      try clear c11
                      try clear c13
                      try clear c13b0
                      try clear c13b1
                      try clear c14
                      try clear c14b0
                      try clear c14b1
                      try clear c16
                      try clear c16b0
                      try clear c16b1
                      try clear c18
                      try clear c18b0
                      try clear p18
                      try clear q18
                      try clear hx18
                      try clear c21
                      try clear c21b0
                      try clear c23
                      try clear c24
                      try clear c24b0
                      try clear c25
                      try clear c25b0
                      try clear c26
                      try clear c26b0
                      try clear c28
                      try clear c28b0
                      try clear hcz10_0
                      try clear hcz10_1
                      try clear hcz10_2
                      try clear hcz10_3
                      try clear hcz10_4
                      try clear hcz15_0
                      try clear hcz15_1
                      try clear hcz15_2
                      try clear hcz15_3
                      try clear hcz15_4
                      try clear hcz17_0
                      try clear hcz17_1
                      try clear hcz17_2
                      try clear hcz17_3
                      try clear hcz17_4
                      try clear hcz19_0
                      try clear hcz19_1
                      try clear hcz19_2
                      try clear hcz19_3
                      try clear hcz19_4
                      try clear hcz20_0
                      try clear hcz20_1
                      try clear hcz20_2
                      try clear hcz20_3
                      try clear hcz20_4
                      try clear hcz22_0
                      try clear hcz22_1
                      try clear hcz22_2
                      try clear hcz22_3
                      try clear hcz22_4
                      try clear hcz27_0
                      try clear hcz27_1
                      try clear hcz27_2
                      try clear hcz27_3
                      try clear hcz27_4
                      try clear hcz29_0
                      try clear hcz29_1
                      try clear hcz29_2
                      try clear hcz29_3
                      try clear hcz29_4
                      try clear hcz30_0
                      try clear hcz30_1
                      try clear hcz30_2
                      try clear hcz30_3
                      try clear hcz30_4
                      try clear hcz31_0
                      try clear hcz31_1
                      try clear hcz31_2
                      try clear hcz31_3
                      try clear hcz31_4
                      try clear hcz6_0
                      try clear hcz6_1
                      try clear hcz6_2
                      try clear hcz6_3
                      try clear hcz6_4
                      try clear hcz9_0
                      try clear hcz9_1
                      try clear hcz9_2
                      try clear hcz9_3
                      try clear hcz9_4
                      try clear hfz10_0
                      try clear hfz10_1
                      try clear hfz10_2
                      try clear hfz10_3
                      try clear hfz10_4
                      try clear hfz15_0
                      try clear hfz15_1
                      try clear hfz15_2
                      try clear hfz15_3
                      try clear hfz15_4
                      try clear hfz17_0
                      try clear hfz17_1
                      try clear hfz17_2
                      try clear hfz17_3
                      try clear hfz17_4
                      try clear hfz19_0
                      try clear hfz19_1
                      try clear hfz19_2
                      try clear hfz19_3
                      try clear hfz19_4
                      try clear hfz20_0
                      try clear hfz20_1
                      try clear hfz20_2
                      try clear hfz20_3
                      try clear hfz20_4
                      try clear hfz22_0
                      try clear hfz22_1
                      try clear hfz22_2
                      try clear hfz22_3
                      try clear hfz22_4
                      try clear hfz27_0
                      try clear hfz27_1
                      try clear hfz27_2
                      try clear hfz27_3
                      try clear hfz27_4
                      try clear hfz29_0
                      try clear hfz29_1
                      try clear hfz29_2
                      try clear hfz29_3
                      try clear hfz29_4
                      try clear hfz30_0
                      try clear hfz30_1
                      try clear hfz30_2
                      try clear hfz30_3
                      try clear hfz30_4
                      try clear hfz31_0
                      try clear hfz31_1
                      try clear hfz31_2
                      try clear hfz31_3
                      try clear hfz31_4
                      try clear hfz6_0
                      try clear hfz6_1
                      try clear hfz6_2
                      try clear hfz6_3
                      try clear hfz6_4
                      try clear hfz9_0
                      try clear hfz9_1
                      try clear hfz9_2
                      try clear hfz9_3
                      try clear hfz9_4
                      try clear hx180_0
                      try clear hx181_0
                      try clear p180
                      try clear p181
                      try clear p2
                      try clear q180
                      try clear q181
                      obtain ⟨x7_4, rfl, HA, HK4, BK176, HB⟩ := hrel
                      cases gk with
                      | zero => exact absurd HA.out (by simp [lunetteref20_Check.l1])
                      | succ k4 =>
                        have H := HA.out
                        clear HA
                        simp only [lunetteref20_Check.l1] at H
                        by_cases c32 : x7_4 < (l0_2.length : Int)
                        · rw [if_pos c32] at H
                          have c32b0 : decide (x7_4 < (l0_2.length : Int)) = true := decide_eq_true c32
                          clear c32
                          by_cases c33 : 0 ≤ x7_4
                          · rw [if_pos c33] at H
                            have c33b0 : decide (0 ≤ x7_4) = true := decide_eq_true c33
                            clear c33
                            replace H := Option.bind_eq_some_iff.mp H
                            obtain ⟨t183, A340, H⟩ := H
                            replace H : (if t183 = true then (lunetteref20_Check.l1 k4 (wrap64 (x7_4 + 1)) a0_0 l0_1 l0_2 a0_3 a0_4) else (some false)) = some r := H
                            have A34 := Aside0.mk A340
                            clear A340
                            by_cases c35 : t183 = true
                            · subst c35
                              have H1 : (lunetteref20_Check.l1 k4 (wrap64 (x7_4 + 1)) a0_0 l0_1 l0_2 a0_3 a0_4) = some r := by rw [if_pos rfl] at H; exact H
                              clear H
                              have H := H1
                              clear H1
                              have H' := Aside0.mk H
                              clear H
                              have hcz36_0 : wr.cell? ⟨gb176, 0, none⟩ = some (.string a0_0) := (blk_cell BK176.out 0).trans rfl
                              have hcz36_1 : wr.cell? ⟨gb176, 1, none⟩ = some (.slice A0_1 l0_1.length c0_1) := (blk_cell BK176.out 1).trans rfl
                              have hcz36_2 : wr.cell? ⟨gb176, 2, none⟩ = some (.slice A0_2 l0_2.length c0_2) := (blk_cell BK176.out 2).trans rfl
                              have hcz36_3 : wr.cell? ⟨gb176, 3, none⟩ = some (.string a0_3) := (blk_cell BK176.out 3).trans rfl
                              have hcz36_4 : wr.cell? ⟨gb176, 4, none⟩ = some (.string a0_4) := (blk_cell BK176.out 4).trans rfl
                              have hfz36_0 := blk_frozen BK176.out 0
                              have hfz36_1 := blk_frozen BK176.out 1
                              have hfz36_2 := blk_frozen BK176.out 2
                              have hfz36_3 := blk_frozen BK176.out 3
                              have hfz36_4 := blk_frozen BK176.out 4
                              have p182 : 0 ≤ (x7_4 : Int) := of_decide_eq_true (by first | (with_reducible assumption) | assumption)
                              have q182 : x7_4 < (l0_2.length : Int) := of_decide_eq_true (by first | (with_reducible assumption) | assumption)
                              obtain ⟨ad182, e182, hx182_0, hx182_1, hx182_2, hx182_3, hx182_4, hx182_5⟩ := at_T51 HR0_2.out x7_4 p182 q182
                              cases e182
                              replace hx182_0 := (HB.out.cell (World.block_lt_of_cell? w _ hx182_0)).trans hx182_0
                              replace hx182_1 := (HB.out.cell (World.block_lt_of_cell? w _ hx182_1)).trans hx182_1
                              replace hx182_2 := (HB.out.cell (World.block_lt_of_cell? w _ hx182_2)).trans hx182_2
                              replace hx182_3 := (HB.out.cell (World.block_lt_of_cell? w _ hx182_3)).trans hx182_3
                              replace hx182_4 := (HB.out.cell (World.block_lt_of_cell? w _ hx182_4)).trans hx182_4
                              replace hx182_5 := (HB.out.cell (World.block_lt_of_cell? w _ hx182_5)).trans hx182_5
                              replace p182 := eq_true p182
                              replace q182 := eq_true q182
                              go_wp2_with (first | ((with_reducible refine gate_callee (f := 33) rfl ?_); refine goesL_ (some 94) rfl rfl Tryz.func33 (by kernel_rfl) rfl #[.agg #[.string ((rd_T51 l0_2 x7_4).f0), .string ((rd_T51 l0_2 x7_4).f1), .string ((rd_T51 l0_2 x7_4).f2), .string ((rd_T51 l0_2 x7_4).f3.f0), .string ((rd_T51 l0_2 x7_4).f3.f1), .string ((rd_T51 l0_2 x7_4).f3.f2)]] rfl (by (try simp only [List.map_toArray, List.map_cons, List.map_nil]); first | done | rfl | (simp only [List.length_drop, List.length_take]; rfl)) ?_; (with_reducible refine (lunetteref11_Check.calls k4 ((rd_T51 l0_2 x7_4).f0) ((rd_T51 l0_2 x7_4).f1) ((rd_T51 l0_2 x7_4).f2) ((rd_T51 l0_2 x7_4).f3.f0) ((rd_T51 l0_2 x7_4).f3.f1) ((rd_T51 l0_2 x7_4).f3.f2) true _ A34.out).mono ?_); rintro e w37 ⟨rfl, hb⟩; refine ⟨_, rfl, ?_⟩; have n0_ := Aside0.mk (blk_below (g := gb176) (o := .cells #[.string a0_0, .slice A0_1 l0_1.length c0_1, .slice (some ad182) l0_2.length c0_2, .string a0_3, .string a0_4] 29 (0, 0)) (by (with_reducible repeat (first | refine blk_drewN ?_ _ | refine blk_drew ?_ | refine blk_alloc ?_ _)); exact BK176.out) hb); have n1_ := Aside0.mk (below_step (by repeat (first | (with_reducible first | exact HB.out | apply below_alloc | apply pw_below_drewN | apply below_drew1 | refine below_set ?_ GE176.out) | exact HB.out)) hb); clear BK176; clear HB; have BK176 := n0_; have HB := n1_; clear n0_ n1_; (try clear hb); (try clear hb2); (try clear hk); (try clear hi)))
                              go_roundg k4
                              case measure => have := HJ3.out; have := HJ11.out; have := HK3.out; have := HK4.out; omega
                              case rel => exact ⟨(wrap64 (x7_4 + 1)), (by first | rfl | (simp; done) | (simp [*]; done)), H', ⟨by have := HJ3.out; have := HJ11.out; have := HK3.out; have := HK4.out; omega⟩, ⟨by (with_reducible repeat (first | refine blk_drewN ?_ _ | refine blk_drew ?_ | refine blk_alloc ?_ _)); exact BK176.out⟩, ⟨by repeat (first | (with_reducible first | exact HB.out | apply below_alloc | apply pw_below_drewN | apply below_drew1 | refine below_set ?_ GE176.out) | exact HB.out)⟩⟩
                            · replace c35 := Bool.eq_false_iff.mpr c35
                              subst c35
                              have H1 : (some false) = some r := by rw [if_neg (show ¬ (false = true) by decide)] at H; exact H
                              clear H
                              have H := H1
                              clear H1
                              obtain rfl := Option.some.inj H
                              have hcz38_0 : wr.cell? ⟨gb176, 0, none⟩ = some (.string a0_0) := (blk_cell BK176.out 0).trans rfl
                              have hcz38_1 : wr.cell? ⟨gb176, 1, none⟩ = some (.slice A0_1 l0_1.length c0_1) := (blk_cell BK176.out 1).trans rfl
                              have hcz38_2 : wr.cell? ⟨gb176, 2, none⟩ = some (.slice A0_2 l0_2.length c0_2) := (blk_cell BK176.out 2).trans rfl
                              have hcz38_3 : wr.cell? ⟨gb176, 3, none⟩ = some (.string a0_3) := (blk_cell BK176.out 3).trans rfl
                              have hcz38_4 : wr.cell? ⟨gb176, 4, none⟩ = some (.string a0_4) := (blk_cell BK176.out 4).trans rfl
                              have hfz38_0 := blk_frozen BK176.out 0
                              have hfz38_1 := blk_frozen BK176.out 1
                              have hfz38_2 := blk_frozen BK176.out 2
                              have hfz38_3 := blk_frozen BK176.out 3
                              have hfz38_4 := blk_frozen BK176.out 4
                              have p182 : 0 ≤ (x7_4 : Int) := of_decide_eq_true (by first | (with_reducible assumption) | assumption)
                              have q182 : x7_4 < (l0_2.length : Int) := of_decide_eq_true (by first | (with_reducible assumption) | assumption)
                              obtain ⟨ad182, e182, hx182_0, hx182_1, hx182_2, hx182_3, hx182_4, hx182_5⟩ := at_T51 HR0_2.out x7_4 p182 q182
                              cases e182
                              replace hx182_0 := (HB.out.cell (World.block_lt_of_cell? w _ hx182_0)).trans hx182_0
                              replace hx182_1 := (HB.out.cell (World.block_lt_of_cell? w _ hx182_1)).trans hx182_1
                              replace hx182_2 := (HB.out.cell (World.block_lt_of_cell? w _ hx182_2)).trans hx182_2
                              replace hx182_3 := (HB.out.cell (World.block_lt_of_cell? w _ hx182_3)).trans hx182_3
                              replace hx182_4 := (HB.out.cell (World.block_lt_of_cell? w _ hx182_4)).trans hx182_4
                              replace hx182_5 := (HB.out.cell (World.block_lt_of_cell? w _ hx182_5)).trans hx182_5
                              replace p182 := eq_true p182
                              replace q182 := eq_true q182
                              go_wp2_with (first | ((with_reducible refine gate_callee (f := 33) rfl ?_); refine goesL_ (some 94) rfl rfl Tryz.func33 (by kernel_rfl) rfl #[.agg #[.string ((rd_T51 l0_2 x7_4).f0), .string ((rd_T51 l0_2 x7_4).f1), .string ((rd_T51 l0_2 x7_4).f2), .string ((rd_T51 l0_2 x7_4).f3.f0), .string ((rd_T51 l0_2 x7_4).f3.f1), .string ((rd_T51 l0_2 x7_4).f3.f2)]] rfl (by (try simp only [List.map_toArray, List.map_cons, List.map_nil]); first | done | rfl | (simp only [List.length_drop, List.length_take]; rfl)) ?_; (with_reducible refine (lunetteref11_Check.calls k4 ((rd_T51 l0_2 x7_4).f0) ((rd_T51 l0_2 x7_4).f1) ((rd_T51 l0_2 x7_4).f2) ((rd_T51 l0_2 x7_4).f3.f0) ((rd_T51 l0_2 x7_4).f3.f1) ((rd_T51 l0_2 x7_4).f3.f2) false _ A34.out).mono ?_); rintro e w39 ⟨rfl, hb⟩; refine ⟨_, rfl, ?_⟩; have n0_ := Aside0.mk (blk_below (g := gb176) (o := .cells #[.string a0_0, .slice A0_1 l0_1.length c0_1, .slice (some ad182) l0_2.length c0_2, .string a0_3, .string a0_4] 29 (0, 0)) (by (with_reducible repeat (first | refine blk_drewN ?_ _ | refine blk_drew ?_ | refine blk_alloc ?_ _)); exact BK176.out) hb); have n1_ := Aside0.mk (below_step (by repeat (first | (with_reducible first | exact HB.out | apply below_alloc | apply pw_below_drewN | apply below_drew1 | refine below_set ?_ GE176.out) | exact HB.out)) hb); clear BK176; clear HB; have BK176 := n0_; have HB := n1_; clear n0_ n1_; (try clear hb); (try clear hb2); (try clear hk); (try clear hi)))
                              go_ret
                              exact ⟨by first | rfl | (simp [errW_none, errW_some] <;> rfl) | (simp [*, errW_none, errW_some] <;> rfl), by repeat (first | (with_reducible first | exact HB.out | apply below_alloc | apply pw_below_drewN | apply below_drew1 | refine below_set ?_ GE176.out) | exact HB.out)⟩
                          · rw [if_neg c33] at H
                            exact absurd H (by simp)
                        · rw [if_neg c32] at H
                          have c32b0 : decide (x7_4 < (l0_2.length : Int)) = false := decide_eq_false c32
                          clear c32
                          have HC40 := Aside0.mk H
                          clear H
                          have hcz41_0 : wr.cell? ⟨gb176, 0, none⟩ = some (.string a0_0) := (blk_cell BK176.out 0).trans rfl
                          have hcz41_1 : wr.cell? ⟨gb176, 1, none⟩ = some (.slice A0_1 l0_1.length c0_1) := (blk_cell BK176.out 1).trans rfl
                          have hcz41_2 : wr.cell? ⟨gb176, 2, none⟩ = some (.slice A0_2 l0_2.length c0_2) := (blk_cell BK176.out 2).trans rfl
                          have hcz41_3 : wr.cell? ⟨gb176, 3, none⟩ = some (.string a0_3) := (blk_cell BK176.out 3).trans rfl
                          have hcz41_4 : wr.cell? ⟨gb176, 4, none⟩ = some (.string a0_4) := (blk_cell BK176.out 4).trans rfl
                          have hfz41_0 := blk_frozen BK176.out 0
                          have hfz41_1 := blk_frozen BK176.out 1
                          have hfz41_2 := blk_frozen BK176.out 2
                          have hfz41_3 := blk_frozen BK176.out 3
                          have hfz41_4 := blk_frozen BK176.out 4
                          go_upto_if 98 with (fail)
                          go_cut [] (fun wc => ∃ (kq : Nat), Aside0 (lunetteref20_Check.j5 kq a0_0 l0_1 l0_2 a0_3 a0_4 = some r) ∧ Aside0 (kq ≤ k4) ∧ Aside0 (wc.heap[gb176]? = some (.cells #[.string a0_0, (.slice A0_1 l0_1.length c0_1), (.slice A0_2 l0_2.length c0_2), .string a0_3, .string a0_4] 29 (0, 0))) ∧ Aside0 (Below w.heap.size w wc))
                          case first =>
                            have H := HC40.out
                            clear HC40
                            by_cases c42 : a0_0.toList = ([117, 112, 100, 97, 116, 101] : List UInt8)
                            · rw [if_pos c42] at H
                              have c42b0 : (a0_0.toList == ([117, 112, 100, 97, 116, 101] : List UInt8)) = true := beq_iff_eq.mpr c42
                              have c42b1 : (a0_0.toList != ([117, 112, 100, 97, 116, 101] : List UInt8)) = false := bne_eq_false_iff_eq.mpr c42
                              clear c42
                              (first | rw [c42b0] | (simp only [i64_w, i32_w]; rw [c42b0]) | skip)
                              by_cases c43 : (a0_3.size : Int) = (l0_2.length : Int)
                              · rw [if_pos c43] at H
                                have c43b0 : ((a0_3.size : Int) == (l0_2.length : Int)) = true := beq_iff_eq.mpr c43
                                have c43b1 : ((a0_3.size : Int) != (l0_2.length : Int)) = false := bne_eq_false_iff_eq.mpr c43
                                have c43b2 : (a0_3.size == l0_2.length) = true := by first | simpa using c43 | (simp at c43 ⊢; omega)
                                clear c43
                                have H' := Aside0.mk H
                                clear H
                                have hcz44_0 : wr.cell? ⟨gb176, 0, none⟩ = some (.string a0_0) := (blk_cell BK176.out 0).trans rfl
                                have hcz44_1 : wr.cell? ⟨gb176, 1, none⟩ = some (.slice A0_1 l0_1.length c0_1) := (blk_cell BK176.out 1).trans rfl
                                have hcz44_2 : wr.cell? ⟨gb176, 2, none⟩ = some (.slice A0_2 l0_2.length c0_2) := (blk_cell BK176.out 2).trans rfl
                                have hcz44_3 : wr.cell? ⟨gb176, 3, none⟩ = some (.string a0_3) := (blk_cell BK176.out 3).trans rfl
                                have hcz44_4 : wr.cell? ⟨gb176, 4, none⟩ = some (.string a0_4) := (blk_cell BK176.out 4).trans rfl
                                have hfz44_0 := blk_frozen BK176.out 0
                                have hfz44_1 := blk_frozen BK176.out 1
                                have hfz44_2 := blk_frozen BK176.out 2
                                have hfz44_3 := blk_frozen BK176.out 3
                                have hfz44_4 := blk_frozen BK176.out 4
                                go_wp2
                                go_loopg [8] k4 (fun kq v8 w' => ∃ (x8_5 : Int), v8 = .int .i64 x8_5 ∧ Aside0 (lunetteref20_Check.l2 kq x8_5 a0_0 l0_1 l0_2 a0_3 a0_4 = some r) ∧ Aside0 (kq ≤ k4) ∧ Aside0 (w'.heap[gb176]? = some (.cells #[.string a0_0, (.slice A0_1 l0_1.length c0_1), (.slice A0_2 l0_2.length c0_2), .string a0_3, .string a0_4] 29 (0, 0))) ∧ Aside0 (Below w.heap.size w w'))
                                case atStart => exact ⟨(0), (by first | rfl | (simp; done) | (simp [*]; done)), H', ⟨Nat.le_refl _⟩, ⟨by (with_reducible repeat (first | refine blk_drewN ?_ _ | refine blk_drew ?_ | refine blk_alloc ?_ _)); exact BK176.out⟩, ⟨by repeat (first | (with_reducible first | exact HB.out | apply below_alloc | apply pw_below_drewN | apply below_drew1 | refine below_set ?_ GE176.out) | exact HB.out)⟩⟩
                                case round =>
                                  clear H'
                                  try clear c1
                                  try clear p1
                                  try clear q1
                                  try clear hx1
                                  try clear c2
                                  try clear p2
                                  try clear c3
                                  try clear c4
                                  try clear p6
                                  try clear c7
                                  try clear c7b0
                                  try clear c8
                                  try clear c8b0
                                  try clear c11
                                  try clear c13
                                  try clear c13b0
                                  try clear c13b1
                                  try clear c14
                                  try clear c14b0
                                  try clear c14b1
                                  try clear c16
                                  try clear c16b0
                                  try clear c16b1
                                  try clear c18
                                  try clear c18b0
                                  try clear p18
                                  try clear q18
                                  try clear hx18
                                  try clear c21
                                  try clear c21b0
                                  try clear c23
                                  try clear c24
                                  try clear c24b0
                                  try clear c25
                                  try clear c25b0
                                  try clear c26
                                  try clear c26b0
                                  try clear c28
                                  try clear c28b0
                                  try clear c32
                                  try clear c32b0
                                  try clear c33
                                  try clear c33b0
                                  try clear c35
                                  try clear c42
                                  try clear c42b0
                                  try clear c42b1
                                  try clear c43
                                  try clear c43b0
                                  try clear c43b1
                                  try clear c43b2
                                  try clear hcz10_0
                                  try clear hcz10_1
                                  try clear hcz10_2
                                  try clear hcz10_3
                                  try clear hcz10_4
                                  try clear hcz15_0
                                  try clear hcz15_1
                                  try clear hcz15_2
                                  try clear hcz15_3
                                  try clear hcz15_4
                                  try clear hcz17_0
                                  try clear hcz17_1
                                  try clear hcz17_2
                                  try clear hcz17_3
                                  try clear hcz17_4
                                  try clear hcz19_0
                                  try clear hcz19_1
                                  try clear hcz19_2
                                  try clear hcz19_3
                                  try clear hcz19_4
                                  try clear hcz20_0
                                  try clear hcz20_1
                                  try clear hcz20_2
                                  try clear hcz20_3
                                  try clear hcz20_4
                                  try clear hcz22_0
                                  try clear hcz22_1
                                  try clear hcz22_2
                                  try clear hcz22_3
                                  try clear hcz22_4
                                  try clear hcz27_0
                                  try clear hcz27_1
                                  try clear hcz27_2
                                  try clear hcz27_3
                                  try clear hcz27_4
                                  try clear hcz29_0
                                  try clear hcz29_1
                                  try clear hcz29_2
                                  try clear hcz29_3
                                  try clear hcz29_4
                                  try clear hcz30_0
                                  try clear hcz30_1
                                  try clear hcz30_2
                                  try clear hcz30_3
                                  try clear hcz30_4
                                  try clear hcz31_0
                                  try clear hcz31_1
                                  try clear hcz31_2
                                  try clear hcz31_3
                                  try clear hcz31_4
                                  try clear hcz36_0
                                  try clear hcz36_1
                                  try clear hcz36_2
                                  try clear hcz36_3
                                  try clear hcz36_4
                                  try clear hcz38_0
                                  try clear hcz38_1
                                  try clear hcz38_2
                                  try clear hcz38_3
                                  try clear hcz38_4
                                  try clear hcz41_0
                                  try clear hcz41_1
                                  try clear hcz41_2
                                  try clear hcz41_3
                                  try clear hcz41_4
                                  try clear hcz44_0
                                  try clear hcz44_1
                                  try clear hcz44_2
                                  try clear hcz44_3
                                  try clear hcz44_4
                                  try clear hcz6_0
                                  try clear hcz6_1
                                  try clear hcz6_2
                                  try clear hcz6_3
                                  try clear hcz6_4
                                  try clear hcz9_0
                                  try clear hcz9_1
                                  try clear hcz9_2
                                  try clear hcz9_3
                                  try clear hcz9_4
                                  try clear hfz10_0
                                  try clear hfz10_1
                                  try clear hfz10_2
                                  try clear hfz10_3
                                  try clear hfz10_4
                                  try clear hfz15_0
                                  try clear hfz15_1
                                  try clear hfz15_2
                                  try clear hfz15_3
                                  try clear hfz15_4
                                  try clear hfz17_0
                                  try clear hfz17_1
                                  try clear hfz17_2
                                  try clear hfz17_3
                                  try clear hfz17_4
                                  try clear hfz19_0
                                  try clear hfz19_1
                                  try clear hfz19_2
                                  try clear hfz19_3
                                  try clear hfz19_4
                                  try clear hfz20_0
                                  try clear hfz20_1
                                  try clear hfz20_2
                                  try clear hfz20_3
                                  try clear hfz20_4
                                  try clear hfz22_0
                                  try clear hfz22_1
                                  try clear hfz22_2
                                  try clear hfz22_3
                                  try clear hfz22_4
                                  try clear hfz27_0
                                  try clear hfz27_1
                                  try clear hfz27_2
                                  try clear hfz27_3
                                  try clear hfz27_4
                                  try clear hfz29_0
                                  try clear hfz29_1
                                  try clear hfz29_2
                                  try clear hfz29_3
                                  try clear hfz29_4
                                  try clear hfz30_0
                                  try clear hfz30_1
                                  try clear hfz30_2
                                  try clear hfz30_3
                                  try clear hfz30_4
                                  try clear hfz31_0
                                  try clear hfz31_1
                                  try clear hfz31_2
                                  try clear hfz31_3
                                  try clear hfz31_4
                                  try clear hfz36_0
                                  try clear hfz36_1
                                  try clear hfz36_2
                                  try clear hfz36_3
                                  try clear hfz36_4
                                  try clear hfz38_0
                                  try clear hfz38_1
                                  try clear hfz38_2
                                  try clear hfz38_3
                                  try clear hfz38_4
                                  try clear hfz41_0
                                  try clear hfz41_1
                                  try clear hfz41_2
                                  try clear hfz41_3
                                  try clear hfz41_4
                                  try clear hfz44_0
                                  try clear hfz44_1
                                  try clear hfz44_2
                                  try clear hfz44_3
                                  try clear hfz44_4
                                  try clear hfz6_0
                                  try clear hfz6_1
                                  try clear hfz6_2
                                  try clear hfz6_3
                                  try clear hfz6_4
                                  try clear hfz9_0
                                  try clear hfz9_1
                                  try clear hfz9_2
                                  try clear hfz9_3
                                  try clear hfz9_4
                                  try clear hx180_0
                                  try clear hx181_0
                                  try clear hx182_0
                                  try clear hx182_1
                                  try clear hx182_2
                                  try clear hx182_3
                                  try clear hx182_4
                                  try clear hx182_5
                                  try clear p1
                                  try clear p18
                                  try clear p180
                                  try clear p181
                                  try clear p182
                                  try clear p2
                                  try clear p6
                                  try clear q1
                                  try clear q18
                                  try clear q180
                                  try clear q181
                                  try clear q182
                                  obtain ⟨x8_5, rfl, HA, HK5, BK176, HB⟩ := hrel
                                  cases gk with
                                  | zero => exact absurd HA.out (by simp [lunetteref20_Check.l2])
                                  | succ k5 =>
                                    have H := HA.out
                                    clear HA
                                    simp only [lunetteref20_Check.l2] at H
                                    by_cases c45 : x8_5 < (a0_3.size : Int)
                                    · rw [if_pos c45] at H
                                      have c45b0 : decide (x8_5 < (a0_3.size : Int)) = true := decide_eq_true c45
                                      clear c45
                                      by_cases c46 : 0 ≤ x8_5
                                      · rw [if_pos c46] at H
                                        have c46b0 : decide (0 ≤ x8_5) = true := decide_eq_true c46
                                        clear c46
                                        by_cases c48 : (bt a0_3 x8_5) = 43
                                        · rw [if_pos c48] at H
                                          have c48b0 : ((bt a0_3 x8_5) == 43) = true := beq_iff_eq.mpr c48
                                          have c48b1 : ((bt a0_3 x8_5) != 43) = false := bne_eq_false_iff_eq.mpr c48
                                          clear c48
                                          have H' := Aside0.mk H
                                          clear H
                                          have hcz49_0 : wr.cell? ⟨gb176, 0, none⟩ = some (.string a0_0) := (blk_cell BK176.out 0).trans rfl
                                          have hcz49_1 : wr.cell? ⟨gb176, 1, none⟩ = some (.slice A0_1 l0_1.length c0_1) := (blk_cell BK176.out 1).trans rfl
                                          have hcz49_2 : wr.cell? ⟨gb176, 2, none⟩ = some (.slice A0_2 l0_2.length c0_2) := (blk_cell BK176.out 2).trans rfl
                                          have hcz49_3 : wr.cell? ⟨gb176, 3, none⟩ = some (.string a0_3) := (blk_cell BK176.out 3).trans rfl
                                          have hcz49_4 : wr.cell? ⟨gb176, 4, none⟩ = some (.string a0_4) := (blk_cell BK176.out 4).trans rfl
                                          have hfz49_0 := blk_frozen BK176.out 0
                                          have hfz49_1 := blk_frozen BK176.out 1
                                          have hfz49_2 := blk_frozen BK176.out 2
                                          have hfz49_3 := blk_frozen BK176.out 3
                                          have hfz49_4 := blk_frozen BK176.out 4
                                          have p47 : 0 ≤ (x8_5 : Int) := of_decide_eq_true (by first | (with_reducible assumption) | assumption)
                                          have q47 : x8_5 < (a0_3.size : Int) := of_decide_eq_true (by first | (with_reducible assumption) | assumption)
                                          have hx47 := bt_at a0_3 x8_5
                                          replace p47 := eq_true p47
                                          replace q47 := eq_true q47
                                          go_wp2
                                          go_roundg k5
                                          case measure => have := HJ3.out; have := HJ11.out; have := HK3.out; have := HK4.out; have := HK5.out; omega
                                          case rel => exact ⟨(wrap64 (x8_5 + 1)), (by first | rfl | (simp; done) | (simp [*]; done)), H', ⟨by have := HJ3.out; have := HJ11.out; have := HK3.out; have := HK4.out; have := HK5.out; omega⟩, ⟨by (with_reducible repeat (first | refine blk_drewN ?_ _ | refine blk_drew ?_ | refine blk_alloc ?_ _)); exact BK176.out⟩, ⟨by repeat (first | (with_reducible first | exact HB.out | apply below_alloc | apply pw_below_drewN | apply below_drew1 | refine below_set ?_ GE176.out) | exact HB.out)⟩⟩
                                        · rw [if_neg c48] at H
                                          have c48b0 : ((bt a0_3 x8_5) == 43) = false := beq_eq_false_iff_ne.mpr c48
                                          have c48b1 : ((bt a0_3 x8_5) != 43) = true := bne_iff_ne.mpr c48
                                          by_cases c51 : (bt a0_3 x8_5) = 45
                                          · rw [if_pos c51] at H
                                            have c51b0 : ((bt a0_3 x8_5) == 45) = true := beq_iff_eq.mpr c51
                                            have c51b1 : ((bt a0_3 x8_5) != 45) = false := bne_eq_false_iff_eq.mpr c51
                                            clear c51
                                            have H' := Aside0.mk H
                                            clear H
                                            have hcz52_0 : wr.cell? ⟨gb176, 0, none⟩ = some (.string a0_0) := (blk_cell BK176.out 0).trans rfl
                                            have hcz52_1 : wr.cell? ⟨gb176, 1, none⟩ = some (.slice A0_1 l0_1.length c0_1) := (blk_cell BK176.out 1).trans rfl
                                            have hcz52_2 : wr.cell? ⟨gb176, 2, none⟩ = some (.slice A0_2 l0_2.length c0_2) := (blk_cell BK176.out 2).trans rfl
                                            have hcz52_3 : wr.cell? ⟨gb176, 3, none⟩ = some (.string a0_3) := (blk_cell BK176.out 3).trans rfl
                                            have hcz52_4 : wr.cell? ⟨gb176, 4, none⟩ = some (.string a0_4) := (blk_cell BK176.out 4).trans rfl
                                            have hfz52_0 := blk_frozen BK176.out 0
                                            have hfz52_1 := blk_frozen BK176.out 1
                                            have hfz52_2 := blk_frozen BK176.out 2
                                            have hfz52_3 := blk_frozen BK176.out 3
                                            have hfz52_4 := blk_frozen BK176.out 4
                                            have p47 : 0 ≤ (x8_5 : Int) := of_decide_eq_true (by first | (with_reducible assumption) | assumption)
                                            have q47 : x8_5 < (a0_3.size : Int) := of_decide_eq_true (by first | (with_reducible assumption) | assumption)
                                            have hx47 := bt_at a0_3 x8_5
                                            replace p47 := eq_true p47
                                            replace q47 := eq_true q47
                                            have p50 : 0 ≤ (x8_5 : Int) := of_decide_eq_true (by first | (with_reducible assumption) | assumption)
                                            have q50 : x8_5 < (a0_3.size : Int) := of_decide_eq_true (by first | (with_reducible assumption) | assumption)
                                            have hx50 := bt_at a0_3 x8_5
                                            replace p50 := eq_true p50
                                            replace q50 := eq_true q50
                                            go_wp2
                                            go_roundg k5
                                            case measure => have := HJ3.out; have := HJ11.out; have := HK3.out; have := HK4.out; have := HK5.out; omega
                                            case rel => exact ⟨(wrap64 (x8_5 + 1)), (by first | rfl | (simp; done) | (simp [*]; done)), H', ⟨by have := HJ3.out; have := HJ11.out; have := HK3.out; have := HK4.out; have := HK5.out; omega⟩, ⟨by (with_reducible repeat (first | refine blk_drewN ?_ _ | refine blk_drew ?_ | refine blk_alloc ?_ _)); exact BK176.out⟩, ⟨by repeat (first | (with_reducible first | exact HB.out | apply below_alloc | apply pw_below_drewN | apply below_drew1 | refine below_set ?_ GE176.out) | exact HB.out)⟩⟩
                                          · rw [if_neg c51] at H
                                            have c51b0 : ((bt a0_3 x8_5) == 45) = false := beq_eq_false_iff_ne.mpr c51
                                            have c51b1 : ((bt a0_3 x8_5) != 45) = true := bne_iff_ne.mpr c51
                                            obtain rfl := Option.some.inj H
                                            have hcz53_0 : wr.cell? ⟨gb176, 0, none⟩ = some (.string a0_0) := (blk_cell BK176.out 0).trans rfl
                                            have hcz53_1 : wr.cell? ⟨gb176, 1, none⟩ = some (.slice A0_1 l0_1.length c0_1) := (blk_cell BK176.out 1).trans rfl
                                            have hcz53_2 : wr.cell? ⟨gb176, 2, none⟩ = some (.slice A0_2 l0_2.length c0_2) := (blk_cell BK176.out 2).trans rfl
                                            have hcz53_3 : wr.cell? ⟨gb176, 3, none⟩ = some (.string a0_3) := (blk_cell BK176.out 3).trans rfl
                                            have hcz53_4 : wr.cell? ⟨gb176, 4, none⟩ = some (.string a0_4) := (blk_cell BK176.out 4).trans rfl
                                            have hfz53_0 := blk_frozen BK176.out 0
                                            have hfz53_1 := blk_frozen BK176.out 1
                                            have hfz53_2 := blk_frozen BK176.out 2
                                            have hfz53_3 := blk_frozen BK176.out 3
                                            have hfz53_4 := blk_frozen BK176.out 4
                                            have p47 : 0 ≤ (x8_5 : Int) := of_decide_eq_true (by first | (with_reducible assumption) | assumption)
                                            have q47 : x8_5 < (a0_3.size : Int) := of_decide_eq_true (by first | (with_reducible assumption) | assumption)
                                            have hx47 := bt_at a0_3 x8_5
                                            replace p47 := eq_true p47
                                            replace q47 := eq_true q47
                                            have p50 : 0 ≤ (x8_5 : Int) := of_decide_eq_true (by first | (with_reducible assumption) | assumption)
                                            have q50 : x8_5 < (a0_3.size : Int) := of_decide_eq_true (by first | (with_reducible assumption) | assumption)
                                            have hx50 := bt_at a0_3 x8_5
                                            replace p50 := eq_true p50
                                            replace q50 := eq_true q50
                                            go_wp2
                                            go_ret
                                            exact ⟨by first | rfl | (simp [errW_none, errW_some] <;> rfl) | (simp [*, errW_none, errW_some] <;> rfl), by repeat (first | (with_reducible first | exact HB.out | apply below_alloc | apply pw_below_drewN | apply below_drew1 | refine below_set ?_ GE176.out) | exact HB.out)⟩
                                      · rw [if_neg c46] at H
                                        exact absurd H (by simp)
                                    · rw [if_neg c45] at H
                                      have c45b0 : decide (x8_5 < (a0_3.size : Int)) = false := decide_eq_false c45
                                      clear c45
                                      have H' := Aside0.mk H
                                      clear H
                                      have hcz54_0 : wr.cell? ⟨gb176, 0, none⟩ = some (.string a0_0) := (blk_cell BK176.out 0).trans rfl
                                      have hcz54_1 : wr.cell? ⟨gb176, 1, none⟩ = some (.slice A0_1 l0_1.length c0_1) := (blk_cell BK176.out 1).trans rfl
                                      have hcz54_2 : wr.cell? ⟨gb176, 2, none⟩ = some (.slice A0_2 l0_2.length c0_2) := (blk_cell BK176.out 2).trans rfl
                                      have hcz54_3 : wr.cell? ⟨gb176, 3, none⟩ = some (.string a0_3) := (blk_cell BK176.out 3).trans rfl
                                      have hcz54_4 : wr.cell? ⟨gb176, 4, none⟩ = some (.string a0_4) := (blk_cell BK176.out 4).trans rfl
                                      have hfz54_0 := blk_frozen BK176.out 0
                                      have hfz54_1 := blk_frozen BK176.out 1
                                      have hfz54_2 := blk_frozen BK176.out 2
                                      have hfz54_3 := blk_frozen BK176.out 3
                                      have hfz54_4 := blk_frozen BK176.out 4
                                      go_wp2
                                      go_meet
                                      case rel => exact ⟨_, H', ⟨by have := HJ3.out; have := HJ11.out; have := HK3.out; have := HK4.out; have := HK5.out; first | omega | exact Nat.le_refl _⟩, ⟨by (with_reducible repeat (first | refine blk_drewN ?_ _ | refine blk_drew ?_ | refine blk_alloc ?_ _)); exact BK176.out⟩, ⟨by repeat (first | (with_reducible first | exact HB.out | apply below_alloc | apply pw_below_drewN | apply below_drew1 | refine below_set ?_ GE176.out) | exact HB.out)⟩⟩
                              · rw [if_neg c43] at H
                                have c43b0 : ((a0_3.size : Int) == (l0_2.length : Int)) = false := beq_eq_false_iff_ne.mpr c43
                                have c43b1 : ((a0_3.size : Int) != (l0_2.length : Int)) = true := bne_iff_ne.mpr c43
                                have c43b2 : (a0_3.size == l0_2.length) = false := by first | simpa using c43 | (simp at c43 ⊢; omega)
                                obtain rfl := Option.some.inj H
                                have hcz55_0 : wr.cell? ⟨gb176, 0, none⟩ = some (.string a0_0) := (blk_cell BK176.out 0).trans rfl
                                have hcz55_1 : wr.cell? ⟨gb176, 1, none⟩ = some (.slice A0_1 l0_1.length c0_1) := (blk_cell BK176.out 1).trans rfl
                                have hcz55_2 : wr.cell? ⟨gb176, 2, none⟩ = some (.slice A0_2 l0_2.length c0_2) := (blk_cell BK176.out 2).trans rfl
                                have hcz55_3 : wr.cell? ⟨gb176, 3, none⟩ = some (.string a0_3) := (blk_cell BK176.out 3).trans rfl
                                have hcz55_4 : wr.cell? ⟨gb176, 4, none⟩ = some (.string a0_4) := (blk_cell BK176.out 4).trans rfl
                                have hfz55_0 := blk_frozen BK176.out 0
                                have hfz55_1 := blk_frozen BK176.out 1
                                have hfz55_2 := blk_frozen BK176.out 2
                                have hfz55_3 := blk_frozen BK176.out 3
                                have hfz55_4 := blk_frozen BK176.out 4
                                go_wp2
                                go_ret
                                exact ⟨by first | rfl | (simp [errW_none, errW_some] <;> rfl) | (simp [*, errW_none, errW_some] <;> rfl), by repeat (first | (with_reducible first | exact HB.out | apply below_alloc | apply pw_below_drewN | apply below_drew1 | refine below_set ?_ GE176.out) | exact HB.out)⟩
                            · rw [if_neg c42] at H
                              have c42b0 : (a0_0.toList == ([117, 112, 100, 97, 116, 101] : List UInt8)) = false := beq_eq_false_iff_ne.mpr c42
                              have c42b1 : (a0_0.toList != ([117, 112, 100, 97, 116, 101] : List UInt8)) = true := bne_iff_ne.mpr c42
                              (first | rw [c42b0] | (simp only [i64_w, i32_w]; rw [c42b0]) | skip)
                              by_cases c56 : a0_3.toList = ([] : List UInt8)
                              · rw [if_pos c56] at H
                                have c56b0 : (a0_3.toList == ([] : List UInt8)) = true := beq_iff_eq.mpr c56
                                have c56b1 : (a0_3.toList != ([] : List UInt8)) = false := bne_eq_false_iff_eq.mpr c56
                                clear c56
                                have H' := Aside0.mk H
                                clear H
                                have hcz57_0 : wr.cell? ⟨gb176, 0, none⟩ = some (.string a0_0) := (blk_cell BK176.out 0).trans rfl
                                have hcz57_1 : wr.cell? ⟨gb176, 1, none⟩ = some (.slice A0_1 l0_1.length c0_1) := (blk_cell BK176.out 1).trans rfl
                                have hcz57_2 : wr.cell? ⟨gb176, 2, none⟩ = some (.slice A0_2 l0_2.length c0_2) := (blk_cell BK176.out 2).trans rfl
                                have hcz57_3 : wr.cell? ⟨gb176, 3, none⟩ = some (.string a0_3) := (blk_cell BK176.out 3).trans rfl
                                have hcz57_4 : wr.cell? ⟨gb176, 4, none⟩ = some (.string a0_4) := (blk_cell BK176.out 4).trans rfl
                                have hfz57_0 := blk_frozen BK176.out 0
                                have hfz57_1 := blk_frozen BK176.out 1
                                have hfz57_2 := blk_frozen BK176.out 2
                                have hfz57_3 := blk_frozen BK176.out 3
                                have hfz57_4 := blk_frozen BK176.out 4
                                go_wp2
                                go_meet
                                case rel => exact ⟨_, H', ⟨by have := HJ3.out; have := HJ11.out; have := HK3.out; have := HK4.out; first | omega | exact Nat.le_refl _⟩, ⟨by (with_reducible repeat (first | refine blk_drewN ?_ _ | refine blk_drew ?_ | refine blk_alloc ?_ _)); exact BK176.out⟩, ⟨by repeat (first | (with_reducible first | exact HB.out | apply below_alloc | apply pw_below_drewN | apply below_drew1 | refine below_set ?_ GE176.out) | exact HB.out)⟩⟩
                              · rw [if_neg c56] at H
                                have c56b0 : (a0_3.toList == ([] : List UInt8)) = false := beq_eq_false_iff_ne.mpr c56
                                have c56b1 : (a0_3.toList != ([] : List UInt8)) = true := bne_iff_ne.mpr c56
                                obtain rfl := Option.some.inj H
                                have hcz58_0 : wr.cell? ⟨gb176, 0, none⟩ = some (.string a0_0) := (blk_cell BK176.out 0).trans rfl
                                have hcz58_1 : wr.cell? ⟨gb176, 1, none⟩ = some (.slice A0_1 l0_1.length c0_1) := (blk_cell BK176.out 1).trans rfl
                                have hcz58_2 : wr.cell? ⟨gb176, 2, none⟩ = some (.slice A0_2 l0_2.length c0_2) := (blk_cell BK176.out 2).trans rfl
                                have hcz58_3 : wr.cell? ⟨gb176, 3, none⟩ = some (.string a0_3) := (blk_cell BK176.out 3).trans rfl
                                have hcz58_4 : wr.cell? ⟨gb176, 4, none⟩ = some (.string a0_4) := (blk_cell BK176.out 4).trans rfl
                                have hfz58_0 := blk_frozen BK176.out 0
                                have hfz58_1 := blk_frozen BK176.out 1
                                have hfz58_2 := blk_frozen BK176.out 2
                                have hfz58_3 := blk_frozen BK176.out 3
                                have hfz58_4 := blk_frozen BK176.out 4
                                go_wp2
                                go_ret
                                exact ⟨by first | rfl | (simp [errW_none, errW_some] <;> rfl) | (simp [*, errW_none, errW_some] <;> rfl), by repeat (first | (with_reducible first | exact HB.out | apply below_alloc | apply pw_below_drewN | apply below_drew1 | refine below_set ?_ GE176.out) | exact HB.out)⟩
                          case rest =>
                            clear HC40
                            try clear c1
                            try clear p1
                            try clear q1
                            try clear hx1
                            try clear c2
                            try clear p2
                            try clear c3
                            try clear c4
                            try clear p4
                            try clear q4
                            try clear hx4
                            try clear c5
                            try clear p5
                            try clear q5
                            try clear hx5
                            try clear p6
                            try clear c7
                            try clear c7b0
                            try clear c8
                            try clear c8b0
                            try clear c11
                            try clear c13
                            try clear c13b0
                            try clear c13b1
                            try clear c14
                            try clear c14b0
                            try clear c14b1
                            try clear c16
                            try clear c16b0
                            try clear c16b1
                            try clear c18
                            try clear c18b0
                            try clear p18
                            try clear q18
                            try clear hx18
                            try clear c21
                            try clear c21b0
                            try clear c23
                            try clear c24
                            try clear c24b0
                            try clear c25
                            try clear c25b0
                            try clear c26
                            try clear c26b0
                            try clear c28
                            try clear c28b0
                            try clear c32
                            try clear c32b0
                            try clear c33
                            try clear c33b0
                            try clear c35
                            try clear c42
                            try clear c42b0
                            try clear c42b1
                            try clear c43
                            try clear c43b0
                            try clear c43b1
                            try clear c43b2
                            try clear c45
                            try clear c45b0
                            try clear c46
                            try clear c46b0
                            try clear p47
                            try clear q47
                            try clear hx47
                            try clear c48
                            try clear c48b0
                            try clear c48b1
                            try clear p50
                            try clear q50
                            try clear hx50
                            try clear c51
                            try clear c51b0
                            try clear c51b1
                            try clear c56
                            try clear c56b0
                            try clear c56b1
                            try clear hcz10_0
                            try clear hcz10_1
                            try clear hcz10_2
                            try clear hcz10_3
                            try clear hcz10_4
                            try clear hcz15_0
                            try clear hcz15_1
                            try clear hcz15_2
                            try clear hcz15_3
                            try clear hcz15_4
                            try clear hcz17_0
                            try clear hcz17_1
                            try clear hcz17_2
                            try clear hcz17_3
                            try clear hcz17_4
                            try clear hcz19_0
                            try clear hcz19_1
                            try clear hcz19_2
                            try clear hcz19_3
                            try clear hcz19_4
                            try clear hcz20_0
                            try clear hcz20_1
                            try clear hcz20_2
                            try clear hcz20_3
                            try clear hcz20_4
                            try clear hcz22_0
                            try clear hcz22_1
                            try clear hcz22_2
                            try clear hcz22_3
                            try clear hcz22_4
                            try clear hcz27_0
                            try clear hcz27_1
                            try clear hcz27_2
                            try clear hcz27_3
                            try clear hcz27_4
                            try clear hcz29_0
                            try clear hcz29_1
                            try clear hcz29_2
                            try clear hcz29_3
                            try clear hcz29_4
                            try clear hcz30_0
                            try clear hcz30_1
                            try clear hcz30_2
                            try clear hcz30_3
                            try clear hcz30_4
                            try clear hcz31_0
                            try clear hcz31_1
                            try clear hcz31_2
                            try clear hcz31_3
                            try clear hcz31_4
                            try clear hcz36_0
                            try clear hcz36_1
                            try clear hcz36_2
                            try clear hcz36_3
                            try clear hcz36_4
                            try clear hcz38_0
                            try clear hcz38_1
                            try clear hcz38_2
                            try clear hcz38_3
                            try clear hcz38_4
                            try clear hcz41_0
                            try clear hcz41_1
                            try clear hcz41_2
                            try clear hcz41_3
                            try clear hcz41_4
                            try clear hcz44_0
                            try clear hcz44_1
                            try clear hcz44_2
                            try clear hcz44_3
                            try clear hcz44_4
                            try clear hcz49_0
                            try clear hcz49_1
                            try clear hcz49_2
                            try clear hcz49_3
                            try clear hcz49_4
                            try clear hcz52_0
                            try clear hcz52_1
                            try clear hcz52_2
                            try clear hcz52_3
                            try clear hcz52_4
                            try clear hcz53_0
                            try clear hcz53_1
                            try clear hcz53_2
                            try clear hcz53_3
                            try clear hcz53_4
                            try clear hcz54_0
                            try clear hcz54_1
                            try clear hcz54_2
                            try clear hcz54_3
                            try clear hcz54_4
                            try clear hcz55_0
                            try clear hcz55_1
                            try clear hcz55_2
                            try clear hcz55_3
                            try clear hcz55_4
                            try clear hcz57_0
                            try clear hcz57_1
                            try clear hcz57_2
                            try clear hcz57_3
                            try clear hcz57_4
                            try clear hcz58_0
                            try clear hcz58_1
                            try clear hcz58_2
                            try clear hcz58_3
                            try clear hcz58_4
                            try clear hcz6_0
                            try clear hcz6_1
                            try clear hcz6_2
                            try clear hcz6_3
                            try clear hcz6_4
                            try clear hcz9_0
                            try clear hcz9_1
                            try clear hcz9_2
                            try clear hcz9_3
                            try clear hcz9_4
                            try clear hfz10_0
                            try clear hfz10_1
                            try clear hfz10_2
                            try clear hfz10_3
                            try clear hfz10_4
                            try clear hfz15_0
                            try clear hfz15_1
                            try clear hfz15_2
                            try clear hfz15_3
                            try clear hfz15_4
                            try clear hfz17_0
                            try clear hfz17_1
                            try clear hfz17_2
                            try clear hfz17_3
                            try clear hfz17_4
                            try clear hfz19_0
                            try clear hfz19_1
                            try clear hfz19_2
                            try clear hfz19_3
                            try clear hfz19_4
                            try clear hfz20_0
                            try clear hfz20_1
                            try clear hfz20_2
                            try clear hfz20_3
                            try clear hfz20_4
                            try clear hfz22_0
                            try clear hfz22_1
                            try clear hfz22_2
                            try clear hfz22_3
                            try clear hfz22_4
                            try clear hfz27_0
                            try clear hfz27_1
                            try clear hfz27_2
                            try clear hfz27_3
                            try clear hfz27_4
                            try clear hfz29_0
                            try clear hfz29_1
                            try clear hfz29_2
                            try clear hfz29_3
                            try clear hfz29_4
                            try clear hfz30_0
                            try clear hfz30_1
                            try clear hfz30_2
                            try clear hfz30_3
                            try clear hfz30_4
                            try clear hfz31_0
                            try clear hfz31_1
                            try clear hfz31_2
                            try clear hfz31_3
                            try clear hfz31_4
                            try clear hfz36_0
                            try clear hfz36_1
                            try clear hfz36_2
                            try clear hfz36_3
                            try clear hfz36_4
                            try clear hfz38_0
                            try clear hfz38_1
                            try clear hfz38_2
                            try clear hfz38_3
                            try clear hfz38_4
                            try clear hfz41_0
                            try clear hfz41_1
                            try clear hfz41_2
                            try clear hfz41_3
                            try clear hfz41_4
                            try clear hfz44_0
                            try clear hfz44_1
                            try clear hfz44_2
                            try clear hfz44_3
                            try clear hfz44_4
                            try clear hfz49_0
                            try clear hfz49_1
                            try clear hfz49_2
                            try clear hfz49_3
                            try clear hfz49_4
                            try clear hfz52_0
                            try clear hfz52_1
                            try clear hfz52_2
                            try clear hfz52_3
                            try clear hfz52_4
                            try clear hfz53_0
                            try clear hfz53_1
                            try clear hfz53_2
                            try clear hfz53_3
                            try clear hfz53_4
                            try clear hfz54_0
                            try clear hfz54_1
                            try clear hfz54_2
                            try clear hfz54_3
                            try clear hfz54_4
                            try clear hfz55_0
                            try clear hfz55_1
                            try clear hfz55_2
                            try clear hfz55_3
                            try clear hfz55_4
                            try clear hfz57_0
                            try clear hfz57_1
                            try clear hfz57_2
                            try clear hfz57_3
                            try clear hfz57_4
                            try clear hfz58_0
                            try clear hfz58_1
                            try clear hfz58_2
                            try clear hfz58_3
                            try clear hfz58_4
                            try clear hfz6_0
                            try clear hfz6_1
                            try clear hfz6_2
                            try clear hfz6_3
                            try clear hfz6_4
                            try clear hfz9_0
                            try clear hfz9_1
                            try clear hfz9_2
                            try clear hfz9_3
                            try clear hfz9_4
                            try clear hx180_0
                            try clear hx181_0
                            try clear hx182_0
                            try clear hx182_1
                            try clear hx182_2
                            try clear hx182_3
                            try clear hx182_4
                            try clear hx182_5
                            try clear p1
                            try clear p18
                            try clear p180
                            try clear p181
                            try clear p182
                            try clear p2
                            try clear p47
                            try clear p50
                            try clear p6
                            try clear q1
                            try clear q18
                            try clear q180
                            try clear q181
                            try clear q182
                            try clear q47
                            try clear q50
                            obtain ⟨kq, HA, HJ39, BK176, HB⟩ := hcut
                            cases kq with
                            | zero => exact absurd HA.out (by simp [lunetteref20_Check.j5])
                            | succ kj39 =>
                              have H := HA.out
                              clear HA
                              simp only [lunetteref20_Check.j5] at H
                              by_cases c59 : a0_0.toList = ([114, 117, 108, 101, 115] : List UInt8)
                              · rw [if_pos c59] at H
                                have c59b0 : (a0_0.toList == ([114, 117, 108, 101, 115] : List UInt8)) = true := beq_iff_eq.mpr c59
                                have c59b1 : (a0_0.toList != ([114, 117, 108, 101, 115] : List UInt8)) = false := bne_eq_false_iff_eq.mpr c59
                                clear c59
                                have H' := Aside0.mk H
                                clear H
                                have hcz60_0 : wc.cell? ⟨gb176, 0, none⟩ = some (.string a0_0) := (blk_cell BK176.out 0).trans rfl
                                have hcz60_1 : wc.cell? ⟨gb176, 1, none⟩ = some (.slice A0_1 l0_1.length c0_1) := (blk_cell BK176.out 1).trans rfl
                                have hcz60_2 : wc.cell? ⟨gb176, 2, none⟩ = some (.slice A0_2 l0_2.length c0_2) := (blk_cell BK176.out 2).trans rfl
                                have hcz60_3 : wc.cell? ⟨gb176, 3, none⟩ = some (.string a0_3) := (blk_cell BK176.out 3).trans rfl
                                have hcz60_4 : wc.cell? ⟨gb176, 4, none⟩ = some (.string a0_4) := (blk_cell BK176.out 4).trans rfl
                                have hfz60_0 := blk_frozen BK176.out 0
                                have hfz60_1 := blk_frozen BK176.out 1
                                have hfz60_2 := blk_frozen BK176.out 2
                                have hfz60_3 := blk_frozen BK176.out 3
                                have hfz60_4 := blk_frozen BK176.out 4
                                go_wp2
                                go_loopg [9] kj39 (fun kq v9 w' => ∃ (x9_6 : Int), v9 = .int .i64 x9_6 ∧ Aside0 (lunetteref20_Check.l3 kq x9_6 a0_0 l0_1 l0_2 a0_3 a0_4 = some r) ∧ Aside0 (kq ≤ kj39) ∧ Aside0 (w'.heap[gb176]? = some (.cells #[.string a0_0, (.slice A0_1 l0_1.length c0_1), (.slice A0_2 l0_2.length c0_2), .string a0_3, .string a0_4] 29 (0, 0))) ∧ Aside0 (Below w.heap.size w w'))
                                case atStart => exact ⟨(0), (by first | rfl | (simp; done) | (simp [*]; done)), H', ⟨Nat.le_refl _⟩, ⟨by (with_reducible repeat (first | refine blk_drewN ?_ _ | refine blk_drew ?_ | refine blk_alloc ?_ _)); exact BK176.out⟩, ⟨by repeat (first | (with_reducible first | exact HB.out | apply below_alloc | apply pw_below_drewN | apply below_drew1 | refine below_set ?_ GE176.out) | exact HB.out)⟩⟩
                                case round =>
                                  clear H'
                                  try clear c1
                                  try clear p1
                                  try clear q1
                                  try clear hx1
                                  try clear c2
                                  try clear p2
                                  try clear c3
                                  try clear c4
                                  try clear p4
                                  try clear q4
                                  try clear hx4
                                  try clear c5
                                  try clear p5
                                  try clear q5
                                  try clear hx5
                                  try clear p6
                                  try clear c7
                                  try clear c7b0
                                  try clear c8
                                  try clear c8b0
                                  try clear c11
                                  try clear c13
                                  try clear c13b0
                                  try clear c13b1
                                  try clear c14
                                  try clear c14b0
                                  try clear c14b1
                                  try clear c16
                                  try clear c16b0
                                  try clear c16b1
                                  try clear c18
                                  try clear c18b0
                                  try clear p18
                                  try clear q18
                                  try clear hx18
                                  try clear c21
                                  try clear c21b0
                                  try clear c23
                                  try clear c24
                                  try clear c24b0
                                  try clear c25
                                  try clear c25b0
                                  try clear c26
                                  try clear c26b0
                                  try clear c28
                                  try clear c28b0
                                  try clear c32
                                  try clear c32b0
                                  try clear c33
                                  try clear c33b0
                                  try clear c35
                                  try clear c42
                                  try clear c42b0
                                  try clear c42b1
                                  try clear c43
                                  try clear c43b0
                                  try clear c43b1
                                  try clear c43b2
                                  try clear c45
                                  try clear c45b0
                                  try clear c46
                                  try clear c46b0
                                  try clear p47
                                  try clear q47
                                  try clear hx47
                                  try clear c48
                                  try clear c48b0
                                  try clear c48b1
                                  try clear p50
                                  try clear q50
                                  try clear hx50
                                  try clear c51
                                  try clear c51b0
                                  try clear c51b1
                                  try clear c56
                                  try clear c56b0
                                  try clear c56b1
                                  try clear c59
                                  try clear c59b0
                                  try clear c59b1
                                  try clear hcz10_0
                                  try clear hcz10_1
                                  try clear hcz10_2
                                  try clear hcz10_3
                                  try clear hcz10_4
                                  try clear hcz15_0
                                  try clear hcz15_1
                                  try clear hcz15_2
                                  try clear hcz15_3
                                  try clear hcz15_4
                                  try clear hcz17_0
                                  try clear hcz17_1
                                  try clear hcz17_2
                                  try clear hcz17_3
                                  try clear hcz17_4
                                  try clear hcz19_0
                                  try clear hcz19_1
                                  try clear hcz19_2
                                  try clear hcz19_3
                                  try clear hcz19_4
                                  try clear hcz20_0
                                  try clear hcz20_1
                                  try clear hcz20_2
                                  try clear hcz20_3
                                  try clear hcz20_4
                                  try clear hcz22_0
                                  try clear hcz22_1
                                  try clear hcz22_2
                                  try clear hcz22_3
                                  try clear hcz22_4
                                  try clear hcz27_0
                                  try clear hcz27_1
                                  try clear hcz27_2
                                  try clear hcz27_3
                                  try clear hcz27_4
                                  try clear hcz29_0
                                  try clear hcz29_1
                                  try clear hcz29_2
                                  try clear hcz29_3
                                  try clear hcz29_4
                                  try clear hcz30_0
                                  try clear hcz30_1
                                  try clear hcz30_2
                                  try clear hcz30_3
                                  try clear hcz30_4
                                  try clear hcz31_0
                                  try clear hcz31_1
                                  try clear hcz31_2
                                  try clear hcz31_3
                                  try clear hcz31_4
                                  try clear hcz36_0
                                  try clear hcz36_1
                                  try clear hcz36_2
                                  try clear hcz36_3
                                  try clear hcz36_4
                                  try clear hcz38_0
                                  try clear hcz38_1
                                  try clear hcz38_2
                                  try clear hcz38_3
                                  try clear hcz38_4
                                  try clear hcz41_0
                                  try clear hcz41_1
                                  try clear hcz41_2
                                  try clear hcz41_3
                                  try clear hcz41_4
                                  try clear hcz44_0
                                  try clear hcz44_1
                                  try clear hcz44_2
                                  try clear hcz44_3
                                  try clear hcz44_4
                                  try clear hcz49_0
                                  try clear hcz49_1
                                  try clear hcz49_2
                                  try clear hcz49_3
                                  try clear hcz49_4
                                  try clear hcz52_0
                                  try clear hcz52_1
                                  try clear hcz52_2
                                  try clear hcz52_3
                                  try clear hcz52_4
                                  try clear hcz53_0
                                  try clear hcz53_1
                                  try clear hcz53_2
                                  try clear hcz53_3
                                  try clear hcz53_4
                                  try clear hcz54_0
                                  try clear hcz54_1
                                  try clear hcz54_2
                                  try clear hcz54_3
                                  try clear hcz54_4
                                  try clear hcz55_0
                                  try clear hcz55_1
                                  try clear hcz55_2
                                  try clear hcz55_3
                                  try clear hcz55_4
                                  try clear hcz57_0
                                  try clear hcz57_1
                                  try clear hcz57_2
                                  try clear hcz57_3
                                  try clear hcz57_4
                                  try clear hcz58_0
                                  try clear hcz58_1
                                  try clear hcz58_2
                                  try clear hcz58_3
                                  try clear hcz58_4
                                  try clear hcz60_0
                                  try clear hcz60_1
                                  try clear hcz60_2
                                  try clear hcz60_3
                                  try clear hcz60_4
                                  try clear hcz6_0
                                  try clear hcz6_1
                                  try clear hcz6_2
                                  try clear hcz6_3
                                  try clear hcz6_4
                                  try clear hcz9_0
                                  try clear hcz9_1
                                  try clear hcz9_2
                                  try clear hcz9_3
                                  try clear hcz9_4
                                  try clear hfz10_0
                                  try clear hfz10_1
                                  try clear hfz10_2
                                  try clear hfz10_3
                                  try clear hfz10_4
                                  try clear hfz15_0
                                  try clear hfz15_1
                                  try clear hfz15_2
                                  try clear hfz15_3
                                  try clear hfz15_4
                                  try clear hfz17_0
                                  try clear hfz17_1
                                  try clear hfz17_2
                                  try clear hfz17_3
                                  try clear hfz17_4
                                  try clear hfz19_0
                                  try clear hfz19_1
                                  try clear hfz19_2
                                  try clear hfz19_3
                                  try clear hfz19_4
                                  try clear hfz20_0
                                  try clear hfz20_1
                                  try clear hfz20_2
                                  try clear hfz20_3
                                  try clear hfz20_4
                                  try clear hfz22_0
                                  try clear hfz22_1
                                  try clear hfz22_2
                                  try clear hfz22_3
                                  try clear hfz22_4
                                  try clear hfz27_0
                                  try clear hfz27_1
                                  try clear hfz27_2
                                  try clear hfz27_3
                                  try clear hfz27_4
                                  try clear hfz29_0
                                  try clear hfz29_1
                                  try clear hfz29_2
                                  try clear hfz29_3
                                  try clear hfz29_4
                                  try clear hfz30_0
                                  try clear hfz30_1
                                  try clear hfz30_2
                                  try clear hfz30_3
                                  try clear hfz30_4
                                  try clear hfz31_0
                                  try clear hfz31_1
                                  try clear hfz31_2
                                  try clear hfz31_3
                                  try clear hfz31_4
                                  try clear hfz36_0
                                  try clear hfz36_1
                                  try clear hfz36_2
                                  try clear hfz36_3
                                  try clear hfz36_4
                                  try clear hfz38_0
                                  try clear hfz38_1
                                  try clear hfz38_2
                                  try clear hfz38_3
                                  try clear hfz38_4
                                  try clear hfz41_0
                                  try clear hfz41_1
                                  try clear hfz41_2
                                  try clear hfz41_3
                                  try clear hfz41_4
                                  try clear hfz44_0
                                  try clear hfz44_1
                                  try clear hfz44_2
                                  try clear hfz44_3
                                  try clear hfz44_4
                                  try clear hfz49_0
                                  try clear hfz49_1
                                  try clear hfz49_2
                                  try clear hfz49_3
                                  try clear hfz49_4
                                  try clear hfz52_0
                                  try clear hfz52_1
                                  try clear hfz52_2
                                  try clear hfz52_3
                                  try clear hfz52_4
                                  try clear hfz53_0
                                  try clear hfz53_1
                                  try clear hfz53_2
                                  try clear hfz53_3
                                  try clear hfz53_4
                                  try clear hfz54_0
                                  try clear hfz54_1
                                  try clear hfz54_2
                                  try clear hfz54_3
                                  try clear hfz54_4
                                  try clear hfz55_0
                                  try clear hfz55_1
                                  try clear hfz55_2
                                  try clear hfz55_3
                                  try clear hfz55_4
                                  try clear hfz57_0
                                  try clear hfz57_1
                                  try clear hfz57_2
                                  try clear hfz57_3
                                  try clear hfz57_4
                                  try clear hfz58_0
                                  try clear hfz58_1
                                  try clear hfz58_2
                                  try clear hfz58_3
                                  try clear hfz58_4
                                  try clear hfz60_0
                                  try clear hfz60_1
                                  try clear hfz60_2
                                  try clear hfz60_3
                                  try clear hfz60_4
                                  try clear hfz6_0
                                  try clear hfz6_1
                                  try clear hfz6_2
                                  try clear hfz6_3
                                  try clear hfz6_4
                                  try clear hfz9_0
                                  try clear hfz9_1
                                  try clear hfz9_2
                                  try clear hfz9_3
                                  try clear hfz9_4
                                  try clear hx180_0
                                  try clear hx181_0
                                  try clear hx182_0
                                  try clear hx182_1
                                  try clear hx182_2
                                  try clear hx182_3
                                  try clear hx182_4
                                  try clear hx182_5
                                  try clear p1
                                  try clear p18
                                  try clear p180
                                  try clear p181
                                  try clear p182
                                  try clear p2
                                  try clear p4
                                  try clear p47
                                  try clear p5
                                  try clear p50
                                  try clear p6
                                  try clear q1
                                  try clear q18
                                  try clear q180
                                  try clear q181
                                  try clear q182
                                  try clear q4
                                  try clear q47
                                  try clear q5
                                  try clear q50
                                  obtain ⟨x9_6, rfl, HA, HK6, BK176, HB⟩ := hrel
                                  cases gk with
                                  | zero => exact absurd HA.out (by simp [lunetteref20_Check.l3])
                                  | succ k6 =>
                                    have H := HA.out
                                    clear HA
                                    simp only [lunetteref20_Check.l3] at H
                                    by_cases c61 : x9_6 < (a0_4.size : Int)
                                    · rw [if_pos c61] at H
                                      have c61b0 : decide (x9_6 < (a0_4.size : Int)) = true := decide_eq_true c61
                                      clear c61
                                      by_cases c62 : 0 ≤ x9_6
                                      · rw [if_pos c62] at H
                                        have c62b0 : decide (0 ≤ x9_6) = true := decide_eq_true c62
                                        clear c62
                                        by_cases c64 : (bt a0_4 x9_6) < 32
                                        · rw [if_pos c64] at H
                                          have c64b0 : decide ((bt a0_4 x9_6) < 32) = true := decide_eq_true c64
                                          clear c64
                                          obtain rfl := Option.some.inj H
                                          have hcz65_0 : wr.cell? ⟨gb176, 0, none⟩ = some (.string a0_0) := (blk_cell BK176.out 0).trans rfl
                                          have hcz65_1 : wr.cell? ⟨gb176, 1, none⟩ = some (.slice A0_1 l0_1.length c0_1) := (blk_cell BK176.out 1).trans rfl
                                          have hcz65_2 : wr.cell? ⟨gb176, 2, none⟩ = some (.slice A0_2 l0_2.length c0_2) := (blk_cell BK176.out 2).trans rfl
                                          have hcz65_3 : wr.cell? ⟨gb176, 3, none⟩ = some (.string a0_3) := (blk_cell BK176.out 3).trans rfl
                                          have hcz65_4 : wr.cell? ⟨gb176, 4, none⟩ = some (.string a0_4) := (blk_cell BK176.out 4).trans rfl
                                          have hfz65_0 := blk_frozen BK176.out 0
                                          have hfz65_1 := blk_frozen BK176.out 1
                                          have hfz65_2 := blk_frozen BK176.out 2
                                          have hfz65_3 := blk_frozen BK176.out 3
                                          have hfz65_4 := blk_frozen BK176.out 4
                                          have p63 : 0 ≤ (x9_6 : Int) := of_decide_eq_true (by first | (with_reducible assumption) | assumption)
                                          have q63 : x9_6 < (a0_4.size : Int) := of_decide_eq_true (by first | (with_reducible assumption) | assumption)
                                          have hx63 := bt_at a0_4 x9_6
                                          replace p63 := eq_true p63
                                          replace q63 := eq_true q63
                                          go_wp2
                                          go_ret
                                          exact ⟨by first | rfl | (simp [errW_none, errW_some] <;> rfl) | (simp [*, errW_none, errW_some] <;> rfl), by repeat (first | (with_reducible first | exact HB.out | apply below_alloc | apply pw_below_drewN | apply below_drew1 | refine below_set ?_ GE176.out) | exact HB.out)⟩
                                        · rw [if_neg c64] at H
                                          have c64b0 : decide ((bt a0_4 x9_6) < 32) = false := decide_eq_false c64
                                          clear c64
                                          by_cases c67 : (bt a0_4 x9_6) > 126
                                          · rw [if_pos c67] at H
                                            have c67b0 : decide (126 < (bt a0_4 x9_6)) = true := decide_eq_true c67
                                            clear c67
                                            obtain rfl := Option.some.inj H
                                            have hcz68_0 : wr.cell? ⟨gb176, 0, none⟩ = some (.string a0_0) := (blk_cell BK176.out 0).trans rfl
                                            have hcz68_1 : wr.cell? ⟨gb176, 1, none⟩ = some (.slice A0_1 l0_1.length c0_1) := (blk_cell BK176.out 1).trans rfl
                                            have hcz68_2 : wr.cell? ⟨gb176, 2, none⟩ = some (.slice A0_2 l0_2.length c0_2) := (blk_cell BK176.out 2).trans rfl
                                            have hcz68_3 : wr.cell? ⟨gb176, 3, none⟩ = some (.string a0_3) := (blk_cell BK176.out 3).trans rfl
                                            have hcz68_4 : wr.cell? ⟨gb176, 4, none⟩ = some (.string a0_4) := (blk_cell BK176.out 4).trans rfl
                                            have hfz68_0 := blk_frozen BK176.out 0
                                            have hfz68_1 := blk_frozen BK176.out 1
                                            have hfz68_2 := blk_frozen BK176.out 2
                                            have hfz68_3 := blk_frozen BK176.out 3
                                            have hfz68_4 := blk_frozen BK176.out 4
                                            have p63 : 0 ≤ (x9_6 : Int) := of_decide_eq_true (by first | (with_reducible assumption) | assumption)
                                            have q63 : x9_6 < (a0_4.size : Int) := of_decide_eq_true (by first | (with_reducible assumption) | assumption)
                                            have hx63 := bt_at a0_4 x9_6
                                            replace p63 := eq_true p63
                                            replace q63 := eq_true q63
                                            have p66 : 0 ≤ (x9_6 : Int) := of_decide_eq_true (by first | (with_reducible assumption) | assumption)
                                            have q66 : x9_6 < (a0_4.size : Int) := of_decide_eq_true (by first | (with_reducible assumption) | assumption)
                                            have hx66 := bt_at a0_4 x9_6
                                            replace p66 := eq_true p66
                                            replace q66 := eq_true q66
                                            go_wp2
                                            go_ret
                                            exact ⟨by first | rfl | (simp [errW_none, errW_some] <;> rfl) | (simp [*, errW_none, errW_some] <;> rfl), by repeat (first | (with_reducible first | exact HB.out | apply below_alloc | apply pw_below_drewN | apply below_drew1 | refine below_set ?_ GE176.out) | exact HB.out)⟩
                                          · rw [if_neg c67] at H
                                            have c67b0 : decide (126 < (bt a0_4 x9_6)) = false := decide_eq_false c67
                                            clear c67
                                            have H' := Aside0.mk H
                                            clear H
                                            have hcz69_0 : wr.cell? ⟨gb176, 0, none⟩ = some (.string a0_0) := (blk_cell BK176.out 0).trans rfl
                                            have hcz69_1 : wr.cell? ⟨gb176, 1, none⟩ = some (.slice A0_1 l0_1.length c0_1) := (blk_cell BK176.out 1).trans rfl
                                            have hcz69_2 : wr.cell? ⟨gb176, 2, none⟩ = some (.slice A0_2 l0_2.length c0_2) := (blk_cell BK176.out 2).trans rfl
                                            have hcz69_3 : wr.cell? ⟨gb176, 3, none⟩ = some (.string a0_3) := (blk_cell BK176.out 3).trans rfl
                                            have hcz69_4 : wr.cell? ⟨gb176, 4, none⟩ = some (.string a0_4) := (blk_cell BK176.out 4).trans rfl
                                            have hfz69_0 := blk_frozen BK176.out 0
                                            have hfz69_1 := blk_frozen BK176.out 1
                                            have hfz69_2 := blk_frozen BK176.out 2
                                            have hfz69_3 := blk_frozen BK176.out 3
                                            have hfz69_4 := blk_frozen BK176.out 4
                                            have p63 : 0 ≤ (x9_6 : Int) := of_decide_eq_true (by first | (with_reducible assumption) | assumption)
                                            have q63 : x9_6 < (a0_4.size : Int) := of_decide_eq_true (by first | (with_reducible assumption) | assumption)
                                            have hx63 := bt_at a0_4 x9_6
                                            replace p63 := eq_true p63
                                            replace q63 := eq_true q63
                                            have p66 : 0 ≤ (x9_6 : Int) := of_decide_eq_true (by first | (with_reducible assumption) | assumption)
                                            have q66 : x9_6 < (a0_4.size : Int) := of_decide_eq_true (by first | (with_reducible assumption) | assumption)
                                            have hx66 := bt_at a0_4 x9_6
                                            replace p66 := eq_true p66
                                            replace q66 := eq_true q66
                                            go_wp2
                                            go_roundg k6
                                            case measure => have := HJ3.out; have := HJ11.out; have := HK3.out; have := HK4.out; have := HJ39.out; have := HK6.out; omega
                                            case rel => exact ⟨(wrap64 (x9_6 + 1)), (by first | rfl | (simp; done) | (simp [*]; done)), H', ⟨by have := HJ3.out; have := HJ11.out; have := HK3.out; have := HK4.out; have := HJ39.out; have := HK6.out; omega⟩, ⟨by (with_reducible repeat (first | refine blk_drewN ?_ _ | refine blk_drew ?_ | refine blk_alloc ?_ _)); exact BK176.out⟩, ⟨by repeat (first | (with_reducible first | exact HB.out | apply below_alloc | apply pw_below_drewN | apply below_drew1 | refine below_set ?_ GE176.out) | exact HB.out)⟩⟩
                                      · rw [if_neg c62] at H
                                        exact absurd H (by simp)
                                    · rw [if_neg c61] at H
                                      have c61b0 : decide (x9_6 < (a0_4.size : Int)) = false := decide_eq_false c61
                                      clear c61
                                      by_cases c70 : (a0_4.size : Int) ≥ 2
                                      · rw [if_pos c70] at H
                                        have c70b0 : decide (2 ≤ (a0_4.size : Int)) = true := decide_eq_true c70
                                        have c70b1 : decide (2 ≤ a0_4.size) = true := decide_eq_true (by omega)
                                        clear c70
                                        obtain rfl := Option.some.inj H
                                        have hcz71_0 : wr.cell? ⟨gb176, 0, none⟩ = some (.string a0_0) := (blk_cell BK176.out 0).trans rfl
                                        have hcz71_1 : wr.cell? ⟨gb176, 1, none⟩ = some (.slice A0_1 l0_1.length c0_1) := (blk_cell BK176.out 1).trans rfl
                                        have hcz71_2 : wr.cell? ⟨gb176, 2, none⟩ = some (.slice A0_2 l0_2.length c0_2) := (blk_cell BK176.out 2).trans rfl
                                        have hcz71_3 : wr.cell? ⟨gb176, 3, none⟩ = some (.string a0_3) := (blk_cell BK176.out 3).trans rfl
                                        have hcz71_4 : wr.cell? ⟨gb176, 4, none⟩ = some (.string a0_4) := (blk_cell BK176.out 4).trans rfl
                                        have hfz71_0 := blk_frozen BK176.out 0
                                        have hfz71_1 := blk_frozen BK176.out 1
                                        have hfz71_2 := blk_frozen BK176.out 2
                                        have hfz71_3 := blk_frozen BK176.out 3
                                        have hfz71_4 := blk_frozen BK176.out 4
                                        go_wp2
                                        go_ret
                                        exact ⟨by first | rfl | (simp [errW_none, errW_some] <;> rfl) | (simp [*, errW_none, errW_some] <;> rfl), by repeat (first | (with_reducible first | exact HB.out | apply below_alloc | apply pw_below_drewN | apply below_drew1 | refine below_set ?_ GE176.out) | exact HB.out)⟩
                                      · rw [if_neg c70] at H
                                        have c70b0 : decide (2 ≤ (a0_4.size : Int)) = false := decide_eq_false c70
                                        have c70b1 : decide (2 ≤ a0_4.size) = false := decide_eq_false (by omega)
                                        clear c70
                                        obtain rfl := Option.some.inj H
                                        have hcz72_0 : wr.cell? ⟨gb176, 0, none⟩ = some (.string a0_0) := (blk_cell BK176.out 0).trans rfl
                                        have hcz72_1 : wr.cell? ⟨gb176, 1, none⟩ = some (.slice A0_1 l0_1.length c0_1) := (blk_cell BK176.out 1).trans rfl
                                        have hcz72_2 : wr.cell? ⟨gb176, 2, none⟩ = some (.slice A0_2 l0_2.length c0_2) := (blk_cell BK176.out 2).trans rfl
                                        have hcz72_3 : wr.cell? ⟨gb176, 3, none⟩ = some (.string a0_3) := (blk_cell BK176.out 3).trans rfl
                                        have hcz72_4 : wr.cell? ⟨gb176, 4, none⟩ = some (.string a0_4) := (blk_cell BK176.out 4).trans rfl
                                        have hfz72_0 := blk_frozen BK176.out 0
                                        have hfz72_1 := blk_frozen BK176.out 1
                                        have hfz72_2 := blk_frozen BK176.out 2
                                        have hfz72_3 := blk_frozen BK176.out 3
                                        have hfz72_4 := blk_frozen BK176.out 4
                                        go_wp2
                                        go_ret
                                        exact ⟨by first | rfl | (simp [errW_none, errW_some] <;> rfl) | (simp [*, errW_none, errW_some] <;> rfl), by repeat (first | (with_reducible first | exact HB.out | apply below_alloc | apply pw_below_drewN | apply below_drew1 | refine below_set ?_ GE176.out) | exact HB.out)⟩
                              · rw [if_neg c59] at H
                                have c59b0 : (a0_0.toList == ([114, 117, 108, 101, 115] : List UInt8)) = false := beq_eq_false_iff_ne.mpr c59
                                have c59b1 : (a0_0.toList != ([114, 117, 108, 101, 115] : List UInt8)) = true := bne_iff_ne.mpr c59
                                by_cases c73 : a0_4.toList = ([] : List UInt8)
                                · rw [if_pos c73] at H
                                  have c73b0 : (a0_4.toList == ([] : List UInt8)) = true := beq_iff_eq.mpr c73
                                  have c73b1 : (a0_4.toList != ([] : List UInt8)) = false := bne_eq_false_iff_eq.mpr c73
                                  clear c73
                                  by_cases c74 : a0_0.toList = ([115, 112, 111, 105, 108] : List UInt8)
                                  · rw [if_pos c74] at H
                                    have c74b0 : (a0_0.toList == ([115, 112, 111, 105, 108] : List UInt8)) = true := beq_iff_eq.mpr c74
                                    have c74b1 : (a0_0.toList != ([115, 112, 111, 105, 108] : List UInt8)) = false := bne_eq_false_iff_eq.mpr c74
                                    clear c74
                                    by_cases c75 : 2 < (l0_1.length : Int)
                                    · rw [if_pos c75] at H
                                      have c75b0 : decide (2 < (l0_1.length : Int)) = true := decide_eq_true c75
                                      have c75b1 : decide (2 < l0_1.length) = true := decide_eq_true (by omega)
                                      clear c75
                                      obtain rfl := Option.some.inj H
                                      have hcz76_0 : wc.cell? ⟨gb176, 0, none⟩ = some (.string a0_0) := (blk_cell BK176.out 0).trans rfl
                                      have hcz76_1 : wc.cell? ⟨gb176, 1, none⟩ = some (.slice A0_1 l0_1.length c0_1) := (blk_cell BK176.out 1).trans rfl
                                      have hcz76_2 : wc.cell? ⟨gb176, 2, none⟩ = some (.slice A0_2 l0_2.length c0_2) := (blk_cell BK176.out 2).trans rfl
                                      have hcz76_3 : wc.cell? ⟨gb176, 3, none⟩ = some (.string a0_3) := (blk_cell BK176.out 3).trans rfl
                                      have hcz76_4 : wc.cell? ⟨gb176, 4, none⟩ = some (.string a0_4) := (blk_cell BK176.out 4).trans rfl
                                      have hfz76_0 := blk_frozen BK176.out 0
                                      have hfz76_1 := blk_frozen BK176.out 1
                                      have hfz76_2 := blk_frozen BK176.out 2
                                      have hfz76_3 := blk_frozen BK176.out 3
                                      have hfz76_4 := blk_frozen BK176.out 4
                                      have p184 : 0 ≤ (2 : Int) := (by omega)
                                      have q184 : 2 < (l0_1.length : Int) := of_decide_eq_true (by first | (with_reducible assumption) | assumption)
                                      obtain ⟨ad184, e184, hx184_0⟩ := Kd.at_int HR0_1.out 2 p184 q184
                                      cases e184
                                      (try simp only [show (2 : Int).toNat = 2 from rfl, Nat.reduceMul, Nat.reduceEqDiff, Go.Addr.add, ↓reduceIte] at hx184_0)
                                      have qi184 : (2 < l0_1.length) = True := eq_true (by omega)
                                      (try rw [show ((2 : Int)).toNat = 2 from rfl] at hx184_0)
                                      replace hx184_0 := (HB.out.cell (World.block_lt_of_cell? w _ hx184_0)).trans hx184_0
                                      replace p184 := eq_true p184
                                      replace q184 := eq_true q184
                                      go_wp2
                                      go_ret
                                      exact ⟨by first | rfl | (simp [errW_none, errW_some] <;> rfl) | (simp [*, errW_none, errW_some] <;> rfl), by repeat (first | (with_reducible first | exact HB.out | apply below_alloc | apply pw_below_drewN | apply below_drew1 | refine below_set ?_ GE176.out) | exact HB.out)⟩
                                    · rw [if_neg c75] at H
                                      exact absurd H (by simp)
                                  · rw [if_neg c74] at H
                                    have c74b0 : (a0_0.toList == ([115, 112, 111, 105, 108] : List UInt8)) = false := beq_eq_false_iff_ne.mpr c74
                                    have c74b1 : (a0_0.toList != ([115, 112, 111, 105, 108] : List UInt8)) = true := bne_iff_ne.mpr c74
                                    obtain rfl := Option.some.inj H
                                    have hcz77_0 : wc.cell? ⟨gb176, 0, none⟩ = some (.string a0_0) := (blk_cell BK176.out 0).trans rfl
                                    have hcz77_1 : wc.cell? ⟨gb176, 1, none⟩ = some (.slice A0_1 l0_1.length c0_1) := (blk_cell BK176.out 1).trans rfl
                                    have hcz77_2 : wc.cell? ⟨gb176, 2, none⟩ = some (.slice A0_2 l0_2.length c0_2) := (blk_cell BK176.out 2).trans rfl
                                    have hcz77_3 : wc.cell? ⟨gb176, 3, none⟩ = some (.string a0_3) := (blk_cell BK176.out 3).trans rfl
                                    have hcz77_4 : wc.cell? ⟨gb176, 4, none⟩ = some (.string a0_4) := (blk_cell BK176.out 4).trans rfl
                                    have hfz77_0 := blk_frozen BK176.out 0
                                    have hfz77_1 := blk_frozen BK176.out 1
                                    have hfz77_2 := blk_frozen BK176.out 2
                                    have hfz77_3 := blk_frozen BK176.out 3
                                    have hfz77_4 := blk_frozen BK176.out 4
                                    go_wp2
                                    go_ret
                                    exact ⟨by first | rfl | (simp [errW_none, errW_some] <;> rfl) | (simp [*, errW_none, errW_some] <;> rfl), by repeat (first | (with_reducible first | exact HB.out | apply below_alloc | apply pw_below_drewN | apply below_drew1 | refine below_set ?_ GE176.out) | exact HB.out)⟩
                                · rw [if_neg c73] at H
                                  have c73b0 : (a0_4.toList == ([] : List UInt8)) = false := beq_eq_false_iff_ne.mpr c73
                                  have c73b1 : (a0_4.toList != ([] : List UInt8)) = true := bne_iff_ne.mpr c73
                                  obtain rfl := Option.some.inj H
                                  have hcz78_0 : wc.cell? ⟨gb176, 0, none⟩ = some (.string a0_0) := (blk_cell BK176.out 0).trans rfl
                                  have hcz78_1 : wc.cell? ⟨gb176, 1, none⟩ = some (.slice A0_1 l0_1.length c0_1) := (blk_cell BK176.out 1).trans rfl
                                  have hcz78_2 : wc.cell? ⟨gb176, 2, none⟩ = some (.slice A0_2 l0_2.length c0_2) := (blk_cell BK176.out 2).trans rfl
                                  have hcz78_3 : wc.cell? ⟨gb176, 3, none⟩ = some (.string a0_3) := (blk_cell BK176.out 3).trans rfl
                                  have hcz78_4 : wc.cell? ⟨gb176, 4, none⟩ = some (.string a0_4) := (blk_cell BK176.out 4).trans rfl
                                  have hfz78_0 := blk_frozen BK176.out 0
                                  have hfz78_1 := blk_frozen BK176.out 1
                                  have hfz78_2 := blk_frozen BK176.out 2
                                  have hfz78_3 := blk_frozen BK176.out 3
                                  have hfz78_4 := blk_frozen BK176.out 4
                                  go_wp2
                                  go_ret
                                  exact ⟨by first | rfl | (simp [errW_none, errW_some] <;> rfl) | (simp [*, errW_none, errW_some] <;> rfl), by repeat (first | (with_reducible first | exact HB.out | apply below_alloc | apply pw_below_drewN | apply below_drew1 | refine below_set ?_ GE176.out) | exact HB.out)⟩

end Go.Proofs.YtbdoafigggcdpaaGreatDoor.PScr
