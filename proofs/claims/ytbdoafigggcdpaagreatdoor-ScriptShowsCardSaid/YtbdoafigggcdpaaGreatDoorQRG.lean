/- Walks of the reference, cut out of what print.sh wrote for the laws of this seat. No condition of ours. -/
import Derived.Test.YtbdoafigggcdpaaGreatDoorQK0
namespace Go.Proofs.YtbdoafigggcdpaaGreatDoor.PScr
open Go.RowKit Go.Proofs.YtbdoafigggcdpaaGreatDoorW.PrintWords Go.Proofs.YtbdoafigggcdpaaGreatDoorW.PrintLast Go.Proofs.YtbdoafigggcdpaaGreatDoorW.PrintMore
attribute [local go_sem] max2_int min2_int max_two min_two max_three min_three max_four min_four
set_option linter.unusedVariables false
set_option linter.unusedSimpArgs false
attribute [local go_sem high] eqA51
/-! ### lunetteref20_Same: function 15 -/
mutual
def lunetteref20_Same.l0 : Nat → List (S29) → List (S29) → Int → Option (Bool)
  | 0, _, _, _ => none
  | k + 1, x0, x1, x5 => if x5 < (x0.length : Int) then (if 0 ≤ x5 then (if x5 < (x1.length : Int) then (if ((rd_T29 x0 x5).f0).toList = ((rd_T29 x1 x5).f0).toList then (if ((rd_T29 x0 x5).f3).toList = ((rd_T29 x1 x5).f3).toList then (if ((rd_T29 x0 x5).f4).toList = ((rd_T29 x1 x5).f4).toList then (if (((rd_T29 x0 x5).f1).length : Int) = (((rd_T29 x1 x5).f1).length : Int) then (lunetteref20_Same.j1 k x0 x1 x5 ((((rd_T29 x0 x5).f2).length : Int) != (((rd_T29 x1 x5).f2).length : Int)) ((rd_T29 x0 x5).f0) ((rd_T29 x0 x5).f1) ((rd_T29 x0 x5).f2) ((rd_T29 x0 x5).f3) ((rd_T29 x0 x5).f4) ((rd_T29 x1 x5).f0) ((rd_T29 x1 x5).f1) ((rd_T29 x1 x5).f2) ((rd_T29 x1 x5).f3) ((rd_T29 x1 x5).f4)) else (lunetteref20_Same.j1 k x0 x1 x5 true ((rd_T29 x0 x5).f0) ((rd_T29 x0 x5).f1) ((rd_T29 x0 x5).f2) ((rd_T29 x0 x5).f3) ((rd_T29 x0 x5).f4) ((rd_T29 x1 x5).f0) ((rd_T29 x1 x5).f1) ((rd_T29 x1 x5).f2) ((rd_T29 x1 x5).f3) ((rd_T29 x1 x5).f4))) else (lunetteref20_Same.j1 k x0 x1 x5 true ((rd_T29 x0 x5).f0) ((rd_T29 x0 x5).f1) ((rd_T29 x0 x5).f2) ((rd_T29 x0 x5).f3) ((rd_T29 x0 x5).f4) ((rd_T29 x1 x5).f0) ((rd_T29 x1 x5).f1) ((rd_T29 x1 x5).f2) ((rd_T29 x1 x5).f3) ((rd_T29 x1 x5).f4))) else (lunetteref20_Same.j1 k x0 x1 x5 true ((rd_T29 x0 x5).f0) ((rd_T29 x0 x5).f1) ((rd_T29 x0 x5).f2) ((rd_T29 x0 x5).f3) ((rd_T29 x0 x5).f4) ((rd_T29 x1 x5).f0) ((rd_T29 x1 x5).f1) ((rd_T29 x1 x5).f2) ((rd_T29 x1 x5).f3) ((rd_T29 x1 x5).f4))) else (lunetteref20_Same.j1 k x0 x1 x5 true ((rd_T29 x0 x5).f0) ((rd_T29 x0 x5).f1) ((rd_T29 x0 x5).f2) ((rd_T29 x0 x5).f3) ((rd_T29 x0 x5).f4) ((rd_T29 x1 x5).f0) ((rd_T29 x1 x5).f1) ((rd_T29 x1 x5).f2) ((rd_T29 x1 x5).f3) ((rd_T29 x1 x5).f4))) else (none)) else (none)) else (some true)
def lunetteref20_Same.j1 : Nat → List (S29) → List (S29) → Int → Bool → ByteArray → List Int → List (S51) → ByteArray → ByteArray → ByteArray → List Int → List (S51) → ByteArray → ByteArray → Option (Bool)
  | 0, _, _, _, _, _, _, _, _, _, _, _, _, _, _ => none
  | k + 1, x0, x1, x5, x65, x208000, x208001, x208002, x208003, x208004, x209000, x209001, x209002, x209003, x209004 => if x65 = true then (some false) else (lunetteref20_Same.l1 k x0 x1 x5 0 x208000 x208001 x208002 x208003 x208004 x209000 x209001 x209002 x209003 x209004)
def lunetteref20_Same.l1 : Nat → List (S29) → List (S29) → Int → Int → ByteArray → List Int → List (S51) → ByteArray → ByteArray → ByteArray → List Int → List (S51) → ByteArray → ByteArray → Option (Bool)
  | 0, _, _, _, _, _, _, _, _, _, _, _, _, _, _ => none
  | k + 1, x0, x1, x5, x8, x208000, x208001, x208002, x208003, x208004, x209000, x209001, x209002, x209003, x209004 => if x8 < (x208001.length : Int) then (if 0 ≤ x8 then (if x8 < (x209001.length : Int) then (if (rd x208001 x8) = (rd x209001 x8) then (lunetteref20_Same.l1 k x0 x1 x5 (wrap64 (x8 + 1)) x208000 x208001 x208002 x208003 x208004 x209000 x209001 x209002 x209003 x209004) else (some false)) else (none)) else (none)) else (lunetteref20_Same.l2 k x0 x1 x5 0 x208000 x208001 x208002 x208003 x208004 x209000 x209001 x209002 x209003 x209004)
def lunetteref20_Same.l2 : Nat → List (S29) → List (S29) → Int → Int → ByteArray → List Int → List (S51) → ByteArray → ByteArray → ByteArray → List Int → List (S51) → ByteArray → ByteArray → Option (Bool)
  | 0, _, _, _, _, _, _, _, _, _, _, _, _, _, _ => none
  | k + 1, x0, x1, x5, x9, x208000, x208001, x208002, x208003, x208004, x209000, x209001, x209002, x209003, x209004 => if x9 < (x208002.length : Int) then (if 0 ≤ x9 then (if x9 < (x209002.length : Int) then (if (!((((rd_T51 x208002 x9).f0).toList) == (((rd_T51 x209002 x9).f0).toList)) || (!((((rd_T51 x208002 x9).f1).toList) == (((rd_T51 x209002 x9).f1).toList)) || (!((((rd_T51 x208002 x9).f2).toList) == (((rd_T51 x209002 x9).f2).toList)) || ((!((((rd_T51 x208002 x9).f3.f0).toList) == (((rd_T51 x209002 x9).f3.f0).toList)) || (!((((rd_T51 x208002 x9).f3.f1).toList) == (((rd_T51 x209002 x9).f3.f1).toList)) || (!((((rd_T51 x208002 x9).f3.f2).toList) == (((rd_T51 x209002 x9).f3.f2).toList))))))))) = true then (some false) else (lunetteref20_Same.l2 k x0 x1 x5 (wrap64 (x9 + 1)) x208000 x208001 x208002 x208003 x208004 x209000 x209001 x209002 x209003 x209004)) else (none)) else (none)) else (lunetteref20_Same.l0 k x0 x1 (wrap64 (x5 + 1)))
end
def lunetteref20_Same.f (k : Nat) (l0 : List (S29)) (l1 : List (S29)) : Option (Bool) := if (l0.length : Int) = (l1.length : Int) then (lunetteref20_Same.l0 k l0 l1 0) else (some false)
theorem lunetteref20_Same.mono_l : ∀ k, (∀ y0 y1 y2, LeO (lunetteref20_Same.l0 k y0 y1 y2) (lunetteref20_Same.l0 (k + 1) y0 y1 y2)) ∧ (∀ y0 y1 y2 y3 y4 y5 y6 y7 y8 y9 y10 y11 y12 y13, LeO (lunetteref20_Same.j1 k y0 y1 y2 y3 y4 y5 y6 y7 y8 y9 y10 y11 y12 y13) (lunetteref20_Same.j1 (k + 1) y0 y1 y2 y3 y4 y5 y6 y7 y8 y9 y10 y11 y12 y13)) ∧ (∀ y0 y1 y2 y3 y4 y5 y6 y7 y8 y9 y10 y11 y12 y13, LeO (lunetteref20_Same.l1 k y0 y1 y2 y3 y4 y5 y6 y7 y8 y9 y10 y11 y12 y13) (lunetteref20_Same.l1 (k + 1) y0 y1 y2 y3 y4 y5 y6 y7 y8 y9 y10 y11 y12 y13)) ∧ (∀ y0 y1 y2 y3 y4 y5 y6 y7 y8 y9 y10 y11 y12 y13, LeO (lunetteref20_Same.l2 k y0 y1 y2 y3 y4 y5 y6 y7 y8 y9 y10 y11 y12 y13) (lunetteref20_Same.l2 (k + 1) y0 y1 y2 y3 y4 y5 y6 y7 y8 y9 y10 y11 y12 y13))
  | 0 => ⟨fun _ _ _ r h => by simp [lunetteref20_Same.l0] at h, fun _ _ _ _ _ _ _ _ _ _ _ _ _ _ r h => by simp [lunetteref20_Same.j1] at h, fun _ _ _ _ _ _ _ _ _ _ _ _ _ _ r h => by simp [lunetteref20_Same.l1] at h, fun _ _ _ _ _ _ _ _ _ _ _ _ _ _ r h => by simp [lunetteref20_Same.l2] at h⟩
  | k + 1 => by
    obtain ⟨ih0, ih1, ih2, ih3⟩ := lunetteref20_Same.mono_l k
    refine ⟨?_, ?_, ?_, ?_⟩
    · intro y0 y1 y2
      unfold lunetteref20_Same.l0
      repeat' first
      | (with_reducible exact ih0 _ _ _)
      | (with_reducible exact ih1 _ _ _ _ _ _ _ _ _ _ _ _ _ _)
      | (with_reducible exact ih2 _ _ _ _ _ _ _ _ _ _ _ _ _ _)
      | (with_reducible exact ih3 _ _ _ _ _ _ _ _ _ _ _ _ _ _)
      | (with_reducible exact LeO.refl _)
      | (with_reducible exact LeO.none _)
      | (with_reducible refine LeO.ite ?_ ?_)
      | (with_reducible refine LeO.bind ?_ (fun _ => ?_))
      | exact ih0 _ _ _
      | exact ih1 _ _ _ _ _ _ _ _ _ _ _ _ _ _
      | exact ih2 _ _ _ _ _ _ _ _ _ _ _ _ _ _
      | exact ih3 _ _ _ _ _ _ _ _ _ _ _ _ _ _
      | exact LeO.none _
      | refine LeO.ite ?_ ?_
      | refine LeO.bind ?_ (fun _ => ?_)
    · intro y0 y1 y2 y3 y4 y5 y6 y7 y8 y9 y10 y11 y12 y13
      unfold lunetteref20_Same.j1
      repeat' first
      | (with_reducible exact ih0 _ _ _)
      | (with_reducible exact ih1 _ _ _ _ _ _ _ _ _ _ _ _ _ _)
      | (with_reducible exact ih2 _ _ _ _ _ _ _ _ _ _ _ _ _ _)
      | (with_reducible exact ih3 _ _ _ _ _ _ _ _ _ _ _ _ _ _)
      | (with_reducible exact LeO.refl _)
      | (with_reducible exact LeO.none _)
      | (with_reducible refine LeO.ite ?_ ?_)
      | (with_reducible refine LeO.bind ?_ (fun _ => ?_))
      | exact ih0 _ _ _
      | exact ih1 _ _ _ _ _ _ _ _ _ _ _ _ _ _
      | exact ih2 _ _ _ _ _ _ _ _ _ _ _ _ _ _
      | exact ih3 _ _ _ _ _ _ _ _ _ _ _ _ _ _
      | exact LeO.none _
      | refine LeO.ite ?_ ?_
      | refine LeO.bind ?_ (fun _ => ?_)
    · intro y0 y1 y2 y3 y4 y5 y6 y7 y8 y9 y10 y11 y12 y13
      unfold lunetteref20_Same.l1
      repeat' first
      | (with_reducible exact ih0 _ _ _)
      | (with_reducible exact ih1 _ _ _ _ _ _ _ _ _ _ _ _ _ _)
      | (with_reducible exact ih2 _ _ _ _ _ _ _ _ _ _ _ _ _ _)
      | (with_reducible exact ih3 _ _ _ _ _ _ _ _ _ _ _ _ _ _)
      | (with_reducible exact LeO.refl _)
      | (with_reducible exact LeO.none _)
      | (with_reducible refine LeO.ite ?_ ?_)
      | (with_reducible refine LeO.bind ?_ (fun _ => ?_))
      | exact ih0 _ _ _
      | exact ih1 _ _ _ _ _ _ _ _ _ _ _ _ _ _
      | exact ih2 _ _ _ _ _ _ _ _ _ _ _ _ _ _
      | exact ih3 _ _ _ _ _ _ _ _ _ _ _ _ _ _
      | exact LeO.none _
      | refine LeO.ite ?_ ?_
      | refine LeO.bind ?_ (fun _ => ?_)
    · intro y0 y1 y2 y3 y4 y5 y6 y7 y8 y9 y10 y11 y12 y13
      unfold lunetteref20_Same.l2
      repeat' first
      | (with_reducible exact ih0 _ _ _)
      | (with_reducible exact ih1 _ _ _ _ _ _ _ _ _ _ _ _ _ _)
      | (with_reducible exact ih2 _ _ _ _ _ _ _ _ _ _ _ _ _ _)
      | (with_reducible exact ih3 _ _ _ _ _ _ _ _ _ _ _ _ _ _)
      | (with_reducible exact LeO.refl _)
      | (with_reducible exact LeO.none _)
      | (with_reducible refine LeO.ite ?_ ?_)
      | (with_reducible refine LeO.bind ?_ (fun _ => ?_))
      | exact ih0 _ _ _
      | exact ih1 _ _ _ _ _ _ _ _ _ _ _ _ _ _
      | exact ih2 _ _ _ _ _ _ _ _ _ _ _ _ _ _
      | exact ih3 _ _ _ _ _ _ _ _ _ _ _ _ _ _
      | exact LeO.none _
      | refine LeO.ite ?_ ?_
      | refine LeO.bind ?_ (fun _ => ?_)
theorem lunetteref20_Same.mono : ∀ a0 a1 k, LeO (lunetteref20_Same.f k a0 a1) (lunetteref20_Same.f (k + 1) a0 a1) := by
  intro a0 a1 k
  obtain ⟨ih0, ih1, ih2, ih3⟩ := lunetteref20_Same.mono_l k
  unfold lunetteref20_Same.f
  repeat' first
      | (with_reducible exact ih0 _ _ _)
      | (with_reducible exact ih1 _ _ _ _ _ _ _ _ _ _ _ _ _ _)
      | (with_reducible exact ih2 _ _ _ _ _ _ _ _ _ _ _ _ _ _)
      | (with_reducible exact ih3 _ _ _ _ _ _ _ _ _ _ _ _ _ _)
      | (with_reducible exact LeO.refl _)
      | (with_reducible exact LeO.none _)
      | (with_reducible refine LeO.ite ?_ ?_)
      | (with_reducible refine LeO.bind ?_ (fun _ => ?_))
      | exact ih0 _ _ _
      | exact ih1 _ _ _ _ _ _ _ _ _ _ _ _ _ _
      | exact ih2 _ _ _ _ _ _ _ _ _ _ _ _ _ _
      | exact ih3 _ _ _ _ _ _ _ _ _ _ _ _ _ _
      | exact LeO.none _
      | refine LeO.ite ?_ ?_
      | refine LeO.bind ?_ (fun _ => ?_)
def lunetteref20_Same.T6 : Bool × List (List Nat × List Nat) := (true, [([], []), ([], []), ([0, 1], [0, 1]), ([2], [2]), ([], []), ([], []), ([4, 5], [4, 5]), ([6], [6]), ([], []), ([], []), ([8, 3, 0, 1, 2, 3, 8, 9], [3, 8]), ([9, 7, 10, 0, 1, 2, 3, 4, 5, 6, 7, 8, 9, 10], [7, 9])])
def lunetteref20_Same.B6 : List Nat := [0, 0, 3, 7, 0, 0, 48, 112, 0, 0, 783, 2047]
theorem lunetteref20_Same.tab6 : rtab .any (opsOf Tryz.f15 6) = lunetteref20_Same.T6 := by kernel_rfl
theorem lunetteref20_Same.bits6 : waitsOk lunetteref20_Same.T6.2 lunetteref20_Same.B6 = true := by kernel_rfl
def lunetteref20_Same.T12 : Bool × List (List Nat × List Nat) := (true, [([], []), ([0], [0]), ([], []), ([1, 2], [1, 2]), ([3], [3]), ([], []), ([5], [5]), ([], []), ([6, 7], [6, 7]), ([8], [8]), ([4, 9], [4, 9])])
def lunetteref20_Same.B12 : List Nat := [0, 1, 0, 7, 15, 0, 32, 0, 224, 480, 1023]
theorem lunetteref20_Same.tab12 : rtab .any (opsOf Tryz.f15 12) = lunetteref20_Same.T12 := by kernel_rfl
theorem lunetteref20_Same.bits12 : waitsOk lunetteref20_Same.T12.2 lunetteref20_Same.B12 = true := by kernel_rfl
def lunetteref20_Same.T17 : Bool × List (List Nat × List Nat) := (true, [([], []), ([0], [0]), ([], []), ([1, 2], [1, 2]), ([3], [3]), ([], []), ([5], [5]), ([], []), ([6, 7], [6, 7]), ([8], [8]), ([4, 9], [4, 9])])
def lunetteref20_Same.B17 : List Nat := [0, 1, 0, 7, 15, 0, 32, 0, 224, 480, 1023]
theorem lunetteref20_Same.tab17 : rtab .any (opsOf Tryz.f15 17) = lunetteref20_Same.T17 := by kernel_rfl
theorem lunetteref20_Same.bits17 : waitsOk lunetteref20_Same.T17.2 lunetteref20_Same.B17 = true := by kernel_rfl
set_option maxHeartbeats 8000000 in
set_option maxRecDepth 100000 in
theorem lunetteref20_Same.calls (k : Nat) (A0 : Option Addr) (c0 : Nat) (l0 : List (S29)) (A1 : Option Addr) (c1 : Nat) (l1 : List (S29)) (r : Bool) (w : World) (hr0 : Kd.C k29 w A0 l0.length l0) (hc0 : l0.length ≤ c0) (hr1 : Kd.C k29 w A1 l1.length l1) (hc1 : l1.length ≤ c1) (h : lunetteref20_Same.f k l0 l1 = some r) :
    Calls Tryz.prog 15 #[.slice A0 l0.length c0, .slice A1 l1.length c1] w fun e w' => e = .returned (.bool r) ∧ Below w.heap.size w w' := by
  have hu29 := Tryz.underlying29
  have hu51 := Tryz.underlying51
  have HR0 := Aside0.mk hr0
  have HC0 := Aside0.mk hc0
  clear hr0 hc0
  have HR1 := Aside0.mk hr1
  have HC1 := Aside0.mk hc1
  clear hr1 hc1
  have HB := Aside0.mk (Below.refl w.heap.size w)
  have H : (if (l0.length : Int) = (l1.length : Int) then (lunetteref20_Same.l0 k l0 l1 0) else (some false)) = some r := h
  clear h
  by_cases c3 : (l0.length : Int) = (l1.length : Int)
  · rw [if_pos c3] at H
    have c3b0 : ((l0.length : Int) == (l1.length : Int)) = true := beq_iff_eq.mpr c3
    have c3b1 : ((l0.length : Int) != (l1.length : Int)) = false := bne_eq_false_iff_eq.mpr c3
    have c3b2 : (l0.length == l1.length) = true := by first | simpa using c3 | (simp at c3 ⊢; omega)
    clear c3
    have H' := Aside0.mk H
    clear H
    go_enter Tryz.func15, Tryz.ntmps15
    go_wp2
    go_loopg [5] k (fun kq v5 w' => ∃ (x5_1 : Int), v5 = .int .i64 x5_1 ∧ Aside0 (lunetteref20_Same.l0 kq l0 l1 x5_1 = some r) ∧ Aside0 (kq ≤ k) ∧ Aside0 (Below w.heap.size w w'))
    case atStart => exact ⟨(0), (by first | rfl | (simp; done) | (simp [*]; done)), H', ⟨Nat.le_refl _⟩, ⟨by repeat (first | (with_reducible first | exact HB.out | apply below_alloc | apply pw_below_drewN | apply below_drew1) | exact HB.out)⟩⟩
    case round =>
      clear H'
      try clear c1
      try clear p2
      try clear c3
      try clear c3b0
      try clear c3b1
      try clear c3b2
      obtain ⟨x5_1, rfl, HA, HK1, HB⟩ := hrel
      cases gk with
      | zero => exact absurd HA.out (by simp [lunetteref20_Same.l0])
      | succ k1 =>
        have H := HA.out
        clear HA
        simp only [lunetteref20_Same.l0] at H
        by_cases c4 : x5_1 < (l0.length : Int)
        · rw [if_pos c4] at H
          have c4b0 : decide (x5_1 < (l0.length : Int)) = true := decide_eq_true c4
          clear c4
          by_cases c5 : 0 ≤ x5_1
          · rw [if_pos c5] at H
            have c5b0 : decide (0 ≤ x5_1) = true := decide_eq_true c5
            clear c5
            by_cases c6 : x5_1 < (l1.length : Int)
            · rw [if_pos c6] at H
              have c6b0 : decide (x5_1 < (l1.length : Int)) = true := decide_eq_true c6
              clear c6
              have HC7 := Aside0.mk H
              clear H
              try go_wp2
              have n0_ := Aside0.mk (below_drew1 HB.out)
              clear HB
              have HB := n0_
              clear n0_
              have p205 : 0 ≤ (x5_1 : Int) := of_decide_eq_true (by first | (with_reducible assumption) | assumption)
              have q205 : x5_1 < (l0.length : Int) := of_decide_eq_true (by first | (with_reducible assumption) | assumption)
              obtain ⟨ad205, A205_1, c205_1, A205_2, c205_2, e205, hx205_0, hx205_1, hx205_2, hx205_3, hx205_4, hl205_1, hi205_1, hl205_2, hi205_2⟩ := at_T29 HR0.out x5_1 p205 q205
              have hw205_4 := hx205_4
              have hw205_3 := hx205_3
              have hw205_2 := hx205_2
              have hw205_1 := hx205_1
              have hw205_0 := hx205_0
              cases e205
              replace hx205_0 := (HB.out.cell (World.block_lt_of_cell? w _ hx205_0)).trans hx205_0
              replace hx205_1 := (HB.out.cell (World.block_lt_of_cell? w _ hx205_1)).trans hx205_1
              replace hx205_2 := (HB.out.cell (World.block_lt_of_cell? w _ hx205_2)).trans hx205_2
              replace hx205_3 := (HB.out.cell (World.block_lt_of_cell? w _ hx205_3)).trans hx205_3
              replace hx205_4 := (HB.out.cell (World.block_lt_of_cell? w _ hx205_4)).trans hx205_4
              have HR205_1 := Aside0.mk hi205_1
              have HC205_1 := Aside0.mk hl205_1
              clear hi205_1 hl205_1
              have HR205_2 := Aside0.mk hi205_2
              have HC205_2 := Aside0.mk hl205_2
              clear hi205_2 hl205_2
              replace p205 := eq_true p205
              replace q205 := eq_true q205
              have p206 : 0 ≤ (x5_1 : Int) := of_decide_eq_true (by first | (with_reducible assumption) | assumption)
              have q206 : x5_1 < (l1.length : Int) := of_decide_eq_true (by first | (with_reducible assumption) | assumption)
              obtain ⟨ad206, A206_1, c206_1, A206_2, c206_2, e206, hx206_0, hx206_1, hx206_2, hx206_3, hx206_4, hl206_1, hi206_1, hl206_2, hi206_2⟩ := at_T29 HR1.out x5_1 p206 q206
              have hw206_4 := hx206_4
              have hw206_3 := hx206_3
              have hw206_2 := hx206_2
              have hw206_1 := hx206_1
              have hw206_0 := hx206_0
              cases e206
              replace hx206_0 := (HB.out.cell (World.block_lt_of_cell? w _ hx206_0)).trans hx206_0
              replace hx206_1 := (HB.out.cell (World.block_lt_of_cell? w _ hx206_1)).trans hx206_1
              replace hx206_2 := (HB.out.cell (World.block_lt_of_cell? w _ hx206_2)).trans hx206_2
              replace hx206_3 := (HB.out.cell (World.block_lt_of_cell? w _ hx206_3)).trans hx206_3
              replace hx206_4 := (HB.out.cell (World.block_lt_of_cell? w _ hx206_4)).trans hx206_4
              have HR206_1 := Aside0.mk hi206_1
              have HC206_1 := Aside0.mk hl206_1
              clear hi206_1 hl206_1
              have HR206_2 := Aside0.mk hi206_2
              have HC206_2 := Aside0.mk hl206_2
              clear hi206_2 hl206_2
              replace p206 := eq_true p206
              replace q206 := eq_true q206
              refine start_ (n := 12) (S := fun w' => w'.cell? (ad205.add ((x5_1).toNat * 5)) = some (.string ((rd_T29 l0 x5_1).f0)) ∧ w'.cell? ⟨(ad205.add ((x5_1).toNat * 5)).block, (ad205.add ((x5_1).toNat * 5)).off + 1, none⟩ = some (.slice A205_1 ((rd_T29 l0 x5_1).f1).length c205_1) ∧ w'.cell? ⟨(ad205.add ((x5_1).toNat * 5)).block, (ad205.add ((x5_1).toNat * 5)).off + 2, none⟩ = some (.slice A205_2 ((rd_T29 l0 x5_1).f2).length c205_2) ∧ w'.cell? ⟨(ad205.add ((x5_1).toNat * 5)).block, (ad205.add ((x5_1).toNat * 5)).off + 3, none⟩ = some (.string ((rd_T29 l0 x5_1).f3)) ∧ w'.cell? ⟨(ad205.add ((x5_1).toNat * 5)).block, (ad205.add ((x5_1).toNat * 5)).off + 4, none⟩ = some (.string ((rd_T29 l0 x5_1).f4)) ∧ w'.cell? (ad206.add ((x5_1).toNat * 5)) = some (.string ((rd_T29 l1 x5_1).f0)) ∧ w'.cell? ⟨(ad206.add ((x5_1).toNat * 5)).block, (ad206.add ((x5_1).toNat * 5)).off + 1, none⟩ = some (.slice A206_1 ((rd_T29 l1 x5_1).f1).length c206_1) ∧ w'.cell? ⟨(ad206.add ((x5_1).toNat * 5)).block, (ad206.add ((x5_1).toNat * 5)).off + 2, none⟩ = some (.slice A206_2 ((rd_T29 l1 x5_1).f2).length c206_2) ∧ w'.cell? ⟨(ad206.add ((x5_1).toNat * 5)).block, (ad206.add ((x5_1).toNat * 5)).off + 3, none⟩ = some (.string ((rd_T29 l1 x5_1).f3)) ∧ w'.cell? ⟨(ad206.add ((x5_1).toNat * 5)).block, (ad206.add ((x5_1).toNat * 5)).off + 4, none⟩ = some (.string ((rd_T29 l1 x5_1).f4))) (ds := []) #[false, false, false, false, false, false, false, false, false, false, false, false] (by kernel_rfl) rfl rfl ⟨((HB.out.cell (World.block_lt_of_cell? w _ hw205_0)).trans hw205_0), ((HB.out.cell (World.block_lt_of_cell? w _ hw205_1)).trans hw205_1), ((HB.out.cell (World.block_lt_of_cell? w _ hw205_2)).trans hw205_2), ((HB.out.cell (World.block_lt_of_cell? w _ hw205_3)).trans hw205_3), ((HB.out.cell (World.block_lt_of_cell? w _ hw205_4)).trans hw205_4), ((HB.out.cell (World.block_lt_of_cell? w _ hw206_0)).trans hw206_0), ((HB.out.cell (World.block_lt_of_cell? w _ hw206_1)).trans hw206_1), ((HB.out.cell (World.block_lt_of_cell? w _ hw206_2)).trans hw206_2), ((HB.out.cell (World.block_lt_of_cell? w _ hw206_3)).trans hw206_3), ((HB.out.cell (World.block_lt_of_cell? w _ hw206_4)).trans hw206_4)⟩ (fun hHeld => ?_); refine with_tabW lunetteref20_Same.tab6 lunetteref20_Same.bits6 (fun HT_ HW_ => ?_)
              generalize wr.drew = w8 at HB HR205_1 HR205_2 HR206_1 HR206_2 hx205_0 hx205_1 hx205_2 hx205_3 hx205_4 hx206_0 hx206_1 hx206_2 hx206_3 hx206_4 hHeld ⊢
              refine pure_ (i := 0) (N := some 21) (v := ?_) (a' := ?_) #[true, false, false, false, false, false, false, false, false, false, false, false] rfl rfl (any_of HT_.out (by kernel_rfl)) (fun _ _ _ h => h) (Or.inl ⟨by rfl, ?_⟩) ?_ ?_
              rotate_left
              · intro w'
                go_simp
                with_reducible rfl
              rotate_left
              · simp only [Act.put, List.setIfInBounds_toArray, List.set_cons_zero, List.set_cons_succ, i64_w, i32_w]
                rfl
              refine pure_ (i := 1) (N := some 22) (v := ?_) (a' := ?_) #[true, true, false, false, false, false, false, false, false, false, false, false] rfl rfl (any_of HT_.out (by kernel_rfl)) (fun _ _ _ h => h) (Or.inl ⟨by rfl, ?_⟩) ?_ ?_
              rotate_left
              · intro w'
                go_simp
                with_reducible rfl
              rotate_left
              · simp only [Act.put, List.setIfInBounds_toArray, List.set_cons_zero, List.set_cons_succ, i64_w, i32_w]
                rfl
              refine pure_ (i := 2) (N := some 23) (v := ?_) (a' := ?_) #[true, true, true, false, false, false, false, false, false, false, false, false] rfl rfl (any_of HT_.out (by kernel_rfl)) (fun _ _ _ h => h) (Or.inl ⟨by rfl, ?_⟩) ?_ ?_
              rotate_left
              · intro w'
                go_simp
                with_reducible rfl
              rotate_left
              · simp only [Act.put, List.setIfInBounds_toArray, List.set_cons_zero, List.set_cons_succ, i64_w, i32_w]
                rfl
              refine pure_ (i := 4) (N := some 25) (v := ?_) (a' := ?_) #[true, true, true, false, true, false, false, false, false, false, false, false] rfl rfl (any_of HT_.out (by kernel_rfl)) (fun _ _ _ h => h) (Or.inl ⟨by rfl, ?_⟩) ?_ ?_
              rotate_left
              · intro w'
                go_simp
                with_reducible rfl
              rotate_left
              · simp only [Act.put, List.setIfInBounds_toArray, List.set_cons_zero, List.set_cons_succ, i64_w, i32_w]
                rfl
              refine pure_ (i := 5) (N := some 26) (v := ?_) (a' := ?_) #[true, true, true, false, true, true, false, false, false, false, false, false] rfl rfl (any_of HT_.out (by kernel_rfl)) (fun _ _ _ h => h) (Or.inl ⟨by rfl, ?_⟩) ?_ ?_
              rotate_left
              · intro w'
                go_simp
                with_reducible rfl
              rotate_left
              · simp only [Act.put, List.setIfInBounds_toArray, List.set_cons_zero, List.set_cons_succ, i64_w, i32_w]
                rfl
              refine pure_ (i := 6) (N := some 27) (v := ?_) (a' := ?_) #[true, true, true, false, true, true, true, false, false, false, false, false] rfl rfl (any_of HT_.out (by kernel_rfl)) (fun _ _ _ h => h) (Or.inl ⟨by rfl, ?_⟩) ?_ ?_
              rotate_left
              · intro w'
                go_simp
                with_reducible rfl
              rotate_left
              · simp only [Act.put, List.setIfInBounds_toArray, List.set_cons_zero, List.set_cons_succ, i64_w, i32_w]
                rfl
              refine take_ (i := 3) (N := some 24) (v := ?_) (a' := ?_) #[true, true, true, true, true, true, true, false, false, false, false, false] rfl rfl (take_ofW HT_.out HW_.out (by kernel_rfl)) (fun _ _ _ h => h) (Or.inl ⟨by rfl, ?_⟩) hHeld ?_ ?_
              rotate_left
              · rintro w' ⟨s0, s1, s2, s3, s4, s5, s6, s7, s8, s9⟩
                go_simp
                with_reducible rfl
              rotate_left
              · simp only [Act.put, List.setIfInBounds_toArray, List.set_cons_zero, List.set_cons_succ, i64_w, i32_w]
                rfl
              refine take_ (i := 7) (N := some 28) (v := ?_) (a' := ?_) #[true, true, true, true, true, true, true, true, false, false, false, false] rfl rfl (take_ofW HT_.out HW_.out (by kernel_rfl)) (fun _ _ _ h => h) (Or.inl ⟨by rfl, ?_⟩) hHeld ?_ ?_
              rotate_left
              · rintro w' ⟨s0, s1, s2, s3, s4, s5, s6, s7, s8, s9⟩
                go_simp
                with_reducible rfl
              rotate_left
              · simp only [Act.put, List.setIfInBounds_toArray, List.set_cons_zero, List.set_cons_succ, i64_w, i32_w]
                rfl
              refine join_ (σ := Nat × Nat) 2 #[true, true, true, true, true, true, true, true, true, true, false, false] (fun s_ => [(6, .pointer (some ⟨s_.1, 0, none⟩)), (7, .pointer (some ⟨s_.2, 0, none⟩))]) (fun s_ w' => (w'.cell? (ad205.add ((x5_1).toNat * 5)) = some (.string ((rd_T29 l0 x5_1).f0)) ∧ w'.cell? ⟨(ad205.add ((x5_1).toNat * 5)).block, (ad205.add ((x5_1).toNat * 5)).off + 1, none⟩ = some (.slice A205_1 ((rd_T29 l0 x5_1).f1).length c205_1) ∧ w'.cell? ⟨(ad205.add ((x5_1).toNat * 5)).block, (ad205.add ((x5_1).toNat * 5)).off + 2, none⟩ = some (.slice A205_2 ((rd_T29 l0 x5_1).f2).length c205_2) ∧ w'.cell? ⟨(ad205.add ((x5_1).toNat * 5)).block, (ad205.add ((x5_1).toNat * 5)).off + 3, none⟩ = some (.string ((rd_T29 l0 x5_1).f3)) ∧ w'.cell? ⟨(ad205.add ((x5_1).toNat * 5)).block, (ad205.add ((x5_1).toNat * 5)).off + 4, none⟩ = some (.string ((rd_T29 l0 x5_1).f4)) ∧ w'.cell? (ad206.add ((x5_1).toNat * 5)) = some (.string ((rd_T29 l1 x5_1).f0)) ∧ w'.cell? ⟨(ad206.add ((x5_1).toNat * 5)).block, (ad206.add ((x5_1).toNat * 5)).off + 1, none⟩ = some (.slice A206_1 ((rd_T29 l1 x5_1).f1).length c206_1) ∧ w'.cell? ⟨(ad206.add ((x5_1).toNat * 5)).block, (ad206.add ((x5_1).toNat * 5)).off + 2, none⟩ = some (.slice A206_2 ((rd_T29 l1 x5_1).f2).length c206_2) ∧ w'.cell? ⟨(ad206.add ((x5_1).toNat * 5)).block, (ad206.add ((x5_1).toNat * 5)).off + 3, none⟩ = some (.string ((rd_T29 l1 x5_1).f3)) ∧ w'.cell? ⟨(ad206.add ((x5_1).toNat * 5)).block, (ad206.add ((x5_1).toNat * 5)).off + 4, none⟩ = some (.string ((rd_T29 l1 x5_1).f4))) ∧ (w'.heap[s_.1]? = some (.cells #[.string (⟨#[]⟩ : ByteArray), .slice none 0 0, .slice none 0 0, .string (⟨#[]⟩ : ByteArray), .string (⟨#[]⟩ : ByteArray)] 29 (0, 0))) ∧ (w'.heap[s_.2]? = some (.cells #[.string (⟨#[]⟩ : ByteArray), .slice none 0 0, .slice none 0 0, .string (⟨#[]⟩ : ByteArray), .string (⟨#[]⟩ : ByteArray)] 29 (0, 0))) ∧ (w.heap.size ≤ s_.1) ∧ (w.heap.size ≤ s_.1) ∧ (s_.2 ≠ s_.1) ∧ (s_.1 ≠ s_.2) ∧ (w.heap.size ≤ s_.2) ∧ (w.heap.size ≤ s_.2) ∧ (Below w.heap.size w w')) ?_ ?_
              rotate_left
              · intro hCont
                refine two_ (i := 8) (j := 9) (Ni := some 6) (Nj := some 7) #[true, true, true, true, true, true, true, true, true, false, false, false] #[true, true, true, true, true, true, true, true, false, true, false, false] rfl rfl rfl rfl (two_of HT_.out (by kernel_rfl)) (by decide) (by decide) (fun K hK => ?_) (fun K hK => ?_)
                · skip
                  refine box_step ?hg (N := 6) ?hd (cs := #[.string (⟨#[]⟩ : ByteArray), .slice none 0 0, .slice none 0 0, .string (⟨#[]⟩ : ByteArray), .string (⟨#[]⟩ : ByteArray)]) (t := 29) ?hr ?_; (case hd => rfl); (case hg => rfl); (case hr => first | (go_simp; done) | (go_simp; rfl))
                  intro gb207 hg w9 hbox hb
                  have n0_ := Aside0.mk (below_step (by repeat (first | (with_reducible first | exact HB.out | apply below_alloc | apply pw_below_drewN | apply below_drew1) | exact HB.out)) hb)
                  have n1_ := Aside0.mk (hbox)
                  have n2_ := Aside0.mk ((by rw [hg]; exact (below_size (by repeat (first | (with_reducible first | exact HB.out | apply below_alloc | apply pw_below_drewN | apply below_drew1) | exact HB.out))) : w.heap.size ≤ gb207))
                  have n3_ := Aside0.mk ((by rw [hg]; exact (below_size (by repeat (first | (with_reducible first | exact HB.out | apply below_alloc | apply pw_below_drewN | apply below_drew1) | exact HB.out))) : w.heap.size ≤ gb207))
                  clear HB
                  have HB := n0_
                  have BK207 := n1_
                  have GW207 := n2_
                  have GE207 := n3_
                  clear n0_ n1_ n2_ n3_
                  clear hb hbox hg
                  refine hK.out _ _ ⟨((HB.out.cell (World.block_lt_of_cell? w _ hw205_0)).trans hw205_0), ((HB.out.cell (World.block_lt_of_cell? w _ hw205_1)).trans hw205_1), ((HB.out.cell (World.block_lt_of_cell? w _ hw205_2)).trans hw205_2), ((HB.out.cell (World.block_lt_of_cell? w _ hw205_3)).trans hw205_3), ((HB.out.cell (World.block_lt_of_cell? w _ hw205_4)).trans hw205_4), ((HB.out.cell (World.block_lt_of_cell? w _ hw206_0)).trans hw206_0), ((HB.out.cell (World.block_lt_of_cell? w _ hw206_1)).trans hw206_1), ((HB.out.cell (World.block_lt_of_cell? w _ hw206_2)).trans hw206_2), ((HB.out.cell (World.block_lt_of_cell? w _ hw206_3)).trans hw206_3), ((HB.out.cell (World.block_lt_of_cell? w _ hw206_4)).trans hw206_4)⟩ (fun hHeld => ?_)
                  clear hK K
                  refine norm_ (a' := ?_) ?_ ?_
                  rotate_left
                  · show Act.put _ (some 6) _ = _
                    simp only [Act.put, List.setIfInBounds_toArray, List.set_cons_zero, List.set_cons_succ, i64_w, i32_w]
                    rfl
                  refine one_ (i := 9) (N := some 7) #[true, true, true, true, true, true, true, true, true, true, false, false] rfl rfl (one_of HT_.out (by kernel_rfl)) (by decide) (fun K hK => ?_)
                  refine box_step ?hg (N := 7) ?hd (cs := #[.string (⟨#[]⟩ : ByteArray), .slice none 0 0, .slice none 0 0, .string (⟨#[]⟩ : ByteArray), .string (⟨#[]⟩ : ByteArray)]) (t := 29) ?hr ?_; (case hd => rfl); (case hg => rfl); (case hr => first | (go_simp; done) | (go_simp; rfl))
                  intro gb208 hg w10 hbox hb
                  have n0_ := Aside0.mk (blk_below (g := gb207) (o := .cells #[.string (⟨#[]⟩ : ByteArray), .slice none 0 0, .slice none 0 0, .string (⟨#[]⟩ : ByteArray), .string (⟨#[]⟩ : ByteArray)] 29 (0, 0)) (by (with_reducible repeat (first | refine blk_drewN ?_ _ | refine blk_drew ?_ | refine blk_alloc ?_ _)); exact BK207.out) hb)
                  have n1_ := Aside0.mk (below_step (by repeat (first | (with_reducible first | exact HB.out | apply below_alloc | apply pw_below_drewN | apply below_drew1 | refine below_set ?_ GE207.out) | exact HB.out)) hb)
                  have n2_ := Aside0.mk (hbox)
                  have n3_ := Aside0.mk ((by rw [hg]; exact (below_size (by repeat (first | (with_reducible first | exact HB.out | apply below_alloc | apply pw_below_drewN | apply below_drew1 | refine below_set ?_ GE207.out) | exact HB.out))) : w.heap.size ≤ gb208))
                  have n4_ := Aside0.mk ((by rw [hg]; exact (below_size (by repeat (first | (with_reducible first | exact HB.out | apply below_alloc | apply pw_below_drewN | apply below_drew1 | refine below_set ?_ GE207.out) | exact HB.out))) : w.heap.size ≤ gb208))
                  have n5_ := Aside0.mk ((by rw [hg]; exact Nat.ne_of_lt (blk_lt (g := gb207) (o := .cells #[.string (⟨#[]⟩ : ByteArray), .slice none 0 0, .slice none 0 0, .string (⟨#[]⟩ : ByteArray), .string (⟨#[]⟩ : ByteArray)] 29 (0, 0)) (by (with_reducible repeat (first | refine blk_drewN ?_ _ | refine blk_drew ?_ | refine blk_alloc ?_ _)); exact BK207.out)) : gb207 ≠ gb208))
                  have n6_ := Aside0.mk ((by rw [hg]; exact Nat.ne_of_gt (blk_lt (g := gb207) (o := .cells #[.string (⟨#[]⟩ : ByteArray), .slice none 0 0, .slice none 0 0, .string (⟨#[]⟩ : ByteArray), .string (⟨#[]⟩ : ByteArray)] 29 (0, 0)) (by (with_reducible repeat (first | refine blk_drewN ?_ _ | refine blk_drew ?_ | refine blk_alloc ?_ _)); exact BK207.out)) : gb208 ≠ gb207))
                  clear BK207
                  clear HB
                  have BK207 := n0_
                  have HB := n1_
                  have BK208 := n2_
                  have GW208 := n3_
                  have GE208 := n4_
                  have NB207_208 := n5_
                  have NB208_207 := n6_
                  clear n0_ n1_ n2_ n3_ n4_ n5_ n6_
                  clear hb hbox hg
                  refine hK.out _ _ ⟨((HB.out.cell (World.block_lt_of_cell? w _ hw205_0)).trans hw205_0), ((HB.out.cell (World.block_lt_of_cell? w _ hw205_1)).trans hw205_1), ((HB.out.cell (World.block_lt_of_cell? w _ hw205_2)).trans hw205_2), ((HB.out.cell (World.block_lt_of_cell? w _ hw205_3)).trans hw205_3), ((HB.out.cell (World.block_lt_of_cell? w _ hw205_4)).trans hw205_4), ((HB.out.cell (World.block_lt_of_cell? w _ hw206_0)).trans hw206_0), ((HB.out.cell (World.block_lt_of_cell? w _ hw206_1)).trans hw206_1), ((HB.out.cell (World.block_lt_of_cell? w _ hw206_2)).trans hw206_2), ((HB.out.cell (World.block_lt_of_cell? w _ hw206_3)).trans hw206_3), ((HB.out.cell (World.block_lt_of_cell? w _ hw206_4)).trans hw206_4)⟩ (fun hHeld => ?_)
                  clear hK K
                  refine norm_ (a' := ?_) ?_ ?_
                  rotate_left
                  · show Act.put _ (some 7) _ = _
                    simp only [Act.put, List.setIfInBounds_toArray, List.set_cons_zero, List.set_cons_succ, i64_w, i32_w]
                    rfl
                  exact norm_ (by simp only [putAll, Act.put, List.setIfInBounds_toArray, List.set_cons_zero, List.set_cons_succ]) (hCont (gb207, gb208) _ ⟨hHeld, (by (with_reducible repeat (first | refine blk_drewN ?_ _ | refine blk_drew ?_ | refine blk_alloc ?_ _)); exact BK207.out), (by (with_reducible repeat (first | refine blk_drewN ?_ _ | refine blk_drew ?_ | refine blk_alloc ?_ _)); exact BK208.out), GW207.out, GE207.out, NB208_207.out, NB207_208.out, GW208.out, GE208.out, (by repeat (first | (with_reducible first | exact HB.out | apply below_alloc | apply pw_below_drewN | apply below_drew1 | refine below_set ?_ GE207.out | refine below_set ?_ GE208.out) | exact HB.out))⟩)
                · skip
                  refine box_step ?hg (N := 7) ?hd (cs := #[.string (⟨#[]⟩ : ByteArray), .slice none 0 0, .slice none 0 0, .string (⟨#[]⟩ : ByteArray), .string (⟨#[]⟩ : ByteArray)]) (t := 29) ?hr ?_; (case hd => rfl); (case hg => rfl); (case hr => first | (go_simp; done) | (go_simp; rfl))
                  intro gb208 hg w9 hbox hb
                  have n0_ := Aside0.mk (below_step (by repeat (first | (with_reducible first | exact HB.out | apply below_alloc | apply pw_below_drewN | apply below_drew1) | exact HB.out)) hb)
                  have n1_ := Aside0.mk (hbox)
                  have n2_ := Aside0.mk ((by rw [hg]; exact (below_size (by repeat (first | (with_reducible first | exact HB.out | apply below_alloc | apply pw_below_drewN | apply below_drew1) | exact HB.out))) : w.heap.size ≤ gb208))
                  have n3_ := Aside0.mk ((by rw [hg]; exact (below_size (by repeat (first | (with_reducible first | exact HB.out | apply below_alloc | apply pw_below_drewN | apply below_drew1) | exact HB.out))) : w.heap.size ≤ gb208))
                  clear HB
                  have HB := n0_
                  have BK208 := n1_
                  have GW208 := n2_
                  have GE208 := n3_
                  clear n0_ n1_ n2_ n3_
                  clear hb hbox hg
                  refine hK.out _ _ ⟨((HB.out.cell (World.block_lt_of_cell? w _ hw205_0)).trans hw205_0), ((HB.out.cell (World.block_lt_of_cell? w _ hw205_1)).trans hw205_1), ((HB.out.cell (World.block_lt_of_cell? w _ hw205_2)).trans hw205_2), ((HB.out.cell (World.block_lt_of_cell? w _ hw205_3)).trans hw205_3), ((HB.out.cell (World.block_lt_of_cell? w _ hw205_4)).trans hw205_4), ((HB.out.cell (World.block_lt_of_cell? w _ hw206_0)).trans hw206_0), ((HB.out.cell (World.block_lt_of_cell? w _ hw206_1)).trans hw206_1), ((HB.out.cell (World.block_lt_of_cell? w _ hw206_2)).trans hw206_2), ((HB.out.cell (World.block_lt_of_cell? w _ hw206_3)).trans hw206_3), ((HB.out.cell (World.block_lt_of_cell? w _ hw206_4)).trans hw206_4)⟩ (fun hHeld => ?_)
                  clear hK K
                  refine norm_ (a' := ?_) ?_ ?_
                  rotate_left
                  · show Act.put _ (some 7) _ = _
                    simp only [Act.put, List.setIfInBounds_toArray, List.set_cons_zero, List.set_cons_succ, i64_w, i32_w]
                    rfl
                  refine one_ (i := 8) (N := some 6) #[true, true, true, true, true, true, true, true, true, true, false, false] rfl rfl (one_of HT_.out (by kernel_rfl)) (by decide) (fun K hK => ?_)
                  refine box_step ?hg (N := 6) ?hd (cs := #[.string (⟨#[]⟩ : ByteArray), .slice none 0 0, .slice none 0 0, .string (⟨#[]⟩ : ByteArray), .string (⟨#[]⟩ : ByteArray)]) (t := 29) ?hr ?_; (case hd => rfl); (case hg => rfl); (case hr => first | (go_simp; done) | (go_simp; rfl))
                  intro gb207 hg w10 hbox hb
                  have n0_ := Aside0.mk (blk_below (g := gb208) (o := .cells #[.string (⟨#[]⟩ : ByteArray), .slice none 0 0, .slice none 0 0, .string (⟨#[]⟩ : ByteArray), .string (⟨#[]⟩ : ByteArray)] 29 (0, 0)) (by (with_reducible repeat (first | refine blk_drewN ?_ _ | refine blk_drew ?_ | refine blk_alloc ?_ _)); exact BK208.out) hb)
                  have n1_ := Aside0.mk (below_step (by repeat (first | (with_reducible first | exact HB.out | apply below_alloc | apply pw_below_drewN | apply below_drew1 | refine below_set ?_ GE208.out) | exact HB.out)) hb)
                  have n2_ := Aside0.mk (hbox)
                  have n3_ := Aside0.mk ((by rw [hg]; exact (below_size (by repeat (first | (with_reducible first | exact HB.out | apply below_alloc | apply pw_below_drewN | apply below_drew1 | refine below_set ?_ GE208.out) | exact HB.out))) : w.heap.size ≤ gb207))
                  have n4_ := Aside0.mk ((by rw [hg]; exact (below_size (by repeat (first | (with_reducible first | exact HB.out | apply below_alloc | apply pw_below_drewN | apply below_drew1 | refine below_set ?_ GE208.out) | exact HB.out))) : w.heap.size ≤ gb207))
                  have n5_ := Aside0.mk ((by rw [hg]; exact Nat.ne_of_lt (blk_lt (g := gb208) (o := .cells #[.string (⟨#[]⟩ : ByteArray), .slice none 0 0, .slice none 0 0, .string (⟨#[]⟩ : ByteArray), .string (⟨#[]⟩ : ByteArray)] 29 (0, 0)) (by (with_reducible repeat (first | refine blk_drewN ?_ _ | refine blk_drew ?_ | refine blk_alloc ?_ _)); exact BK208.out)) : gb208 ≠ gb207))
                  have n6_ := Aside0.mk ((by rw [hg]; exact Nat.ne_of_gt (blk_lt (g := gb208) (o := .cells #[.string (⟨#[]⟩ : ByteArray), .slice none 0 0, .slice none 0 0, .string (⟨#[]⟩ : ByteArray), .string (⟨#[]⟩ : ByteArray)] 29 (0, 0)) (by (with_reducible repeat (first | refine blk_drewN ?_ _ | refine blk_drew ?_ | refine blk_alloc ?_ _)); exact BK208.out)) : gb207 ≠ gb208))
                  clear BK208
                  clear HB
                  have BK208 := n0_
                  have HB := n1_
                  have BK207 := n2_
                  have GW207 := n3_
                  have GE207 := n4_
                  have NB208_207 := n5_
                  have NB207_208 := n6_
                  clear n0_ n1_ n2_ n3_ n4_ n5_ n6_
                  clear hb hbox hg
                  refine hK.out _ _ ⟨((HB.out.cell (World.block_lt_of_cell? w _ hw205_0)).trans hw205_0), ((HB.out.cell (World.block_lt_of_cell? w _ hw205_1)).trans hw205_1), ((HB.out.cell (World.block_lt_of_cell? w _ hw205_2)).trans hw205_2), ((HB.out.cell (World.block_lt_of_cell? w _ hw205_3)).trans hw205_3), ((HB.out.cell (World.block_lt_of_cell? w _ hw205_4)).trans hw205_4), ((HB.out.cell (World.block_lt_of_cell? w _ hw206_0)).trans hw206_0), ((HB.out.cell (World.block_lt_of_cell? w _ hw206_1)).trans hw206_1), ((HB.out.cell (World.block_lt_of_cell? w _ hw206_2)).trans hw206_2), ((HB.out.cell (World.block_lt_of_cell? w _ hw206_3)).trans hw206_3), ((HB.out.cell (World.block_lt_of_cell? w _ hw206_4)).trans hw206_4)⟩ (fun hHeld => ?_)
                  clear hK K
                  refine norm_ (a' := ?_) ?_ ?_
                  rotate_left
                  · show Act.put _ (some 6) _ = _
                    simp only [Act.put, List.setIfInBounds_toArray, List.set_cons_zero, List.set_cons_succ, i64_w, i32_w]
                    rfl
                  exact norm_ (by simp only [putAll, Act.put, List.setIfInBounds_toArray, List.set_cons_zero, List.set_cons_succ]) (hCont (gb207, gb208) _ ⟨hHeld, (by (with_reducible repeat (first | refine blk_drewN ?_ _ | refine blk_drew ?_ | refine blk_alloc ?_ _)); exact BK207.out), (by (with_reducible repeat (first | refine blk_drewN ?_ _ | refine blk_drew ?_ | refine blk_alloc ?_ _)); exact BK208.out), GW207.out, GE207.out, NB208_207.out, NB207_208.out, GW208.out, GE208.out, (by repeat (first | (with_reducible first | exact HB.out | apply below_alloc | apply pw_below_drewN | apply below_drew1 | refine below_set ?_ GE208.out | refine below_set ?_ GE207.out) | exact HB.out))⟩)
              rintro ⟨gb207, gb208⟩ w11 ⟨hS_, h0_, h1_, h2_, h3_, h4_, h5_, h6_, h7_, h8_⟩
              have n0_ : Aside0 (w11.heap[gb207]? = some (.cells #[.string (⟨#[]⟩ : ByteArray), .slice none 0 0, .slice none 0 0, .string (⟨#[]⟩ : ByteArray), .string (⟨#[]⟩ : ByteArray)] 29 (0, 0))) := ⟨h0_⟩
              have n1_ : Aside0 (w11.heap[gb208]? = some (.cells #[.string (⟨#[]⟩ : ByteArray), .slice none 0 0, .slice none 0 0, .string (⟨#[]⟩ : ByteArray), .string (⟨#[]⟩ : ByteArray)] 29 (0, 0))) := ⟨h1_⟩
              have n2_ : Aside0 (w.heap.size ≤ gb207) := ⟨h2_⟩
              have n3_ : Aside0 (w.heap.size ≤ gb207) := ⟨h3_⟩
              have n4_ : Aside0 (gb208 ≠ gb207) := ⟨h4_⟩
              have n5_ : Aside0 (gb207 ≠ gb208) := ⟨h5_⟩
              have n6_ : Aside0 (w.heap.size ≤ gb208) := ⟨h6_⟩
              have n7_ : Aside0 (w.heap.size ≤ gb208) := ⟨h7_⟩
              have n8_ : Aside0 (Below w.heap.size w w11) := ⟨h8_⟩
              clear HB
              clear h0_ h1_ h2_ h3_ h4_ h5_ h6_ h7_ h8_
              have BK207 := n0_
              have BK208 := n1_
              have GW207 := n2_
              have GE207 := n3_
              have NB208_207 := n4_
              have NB207_208 := n5_
              have GW208 := n6_
              have GE208 := n7_
              have HB := n8_
              clear n0_ n1_ n2_ n3_ n4_ n5_ n6_ n7_ n8_
              have hHeld : w11.cell? (ad205.add ((x5_1).toNat * 5)) = some (.string ((rd_T29 l0 x5_1).f0)) ∧ w11.cell? ⟨(ad205.add ((x5_1).toNat * 5)).block, (ad205.add ((x5_1).toNat * 5)).off + 1, none⟩ = some (.slice A205_1 ((rd_T29 l0 x5_1).f1).length c205_1) ∧ w11.cell? ⟨(ad205.add ((x5_1).toNat * 5)).block, (ad205.add ((x5_1).toNat * 5)).off + 2, none⟩ = some (.slice A205_2 ((rd_T29 l0 x5_1).f2).length c205_2) ∧ w11.cell? ⟨(ad205.add ((x5_1).toNat * 5)).block, (ad205.add ((x5_1).toNat * 5)).off + 3, none⟩ = some (.string ((rd_T29 l0 x5_1).f3)) ∧ w11.cell? ⟨(ad205.add ((x5_1).toNat * 5)).block, (ad205.add ((x5_1).toNat * 5)).off + 4, none⟩ = some (.string ((rd_T29 l0 x5_1).f4)) ∧ w11.cell? (ad206.add ((x5_1).toNat * 5)) = some (.string ((rd_T29 l1 x5_1).f0)) ∧ w11.cell? ⟨(ad206.add ((x5_1).toNat * 5)).block, (ad206.add ((x5_1).toNat * 5)).off + 1, none⟩ = some (.slice A206_1 ((rd_T29 l1 x5_1).f1).length c206_1) ∧ w11.cell? ⟨(ad206.add ((x5_1).toNat * 5)).block, (ad206.add ((x5_1).toNat * 5)).off + 2, none⟩ = some (.slice A206_2 ((rd_T29 l1 x5_1).f2).length c206_2) ∧ w11.cell? ⟨(ad206.add ((x5_1).toNat * 5)).block, (ad206.add ((x5_1).toNat * 5)).off + 3, none⟩ = some (.string ((rd_T29 l1 x5_1).f3)) ∧ w11.cell? ⟨(ad206.add ((x5_1).toNat * 5)).block, (ad206.add ((x5_1).toNat * 5)).off + 4, none⟩ = some (.string ((rd_T29 l1 x5_1).f4)) := hS_
              refine norm_ (a' := ?_) ?_ ?_
              rotate_left
              · simp only [putAll, Act.put, List.setIfInBounds_toArray, List.set_cons_zero, List.set_cons_succ]
                rfl
              refine one_ (i := 10) (N := none) #[true, true, true, true, true, true, true, true, true, true, true, false] rfl rfl (one_of HT_.out (by kernel_rfl)) (by decide) (fun K hK => ?_)
              have hs12 : w11.cell? ⟨gb207, 0, none⟩ = some (.string (⟨#[]⟩ : ByteArray)) := (blk_cell BK207.out 0).trans rfl
              have hfs12 := blk_frozen BK207.out 0
              have hns12_1 := NB208_207.out
              have hms12_1 := NB207_208.out
              have hs13 : w11.cell? ⟨gb207, 1, none⟩ = some (.slice none 0 0) := (blk_cell BK207.out 1).trans rfl
              have hfs13 := blk_frozen BK207.out 1
              have hns13_1 := NB208_207.out
              have hms13_1 := NB207_208.out
              have hs14 : w11.cell? ⟨gb207, 2, none⟩ = some (.slice none 0 0) := (blk_cell BK207.out 2).trans rfl
              have hfs14 := blk_frozen BK207.out 2
              have hns14_1 := NB208_207.out
              have hms14_1 := NB207_208.out
              have hs15 : w11.cell? ⟨gb207, 3, none⟩ = some (.string (⟨#[]⟩ : ByteArray)) := (blk_cell BK207.out 3).trans rfl
              have hfs15 := blk_frozen BK207.out 3
              have hns15_1 := NB208_207.out
              have hms15_1 := NB207_208.out
              have hs16 : w11.cell? ⟨gb207, 4, none⟩ = some (.string (⟨#[]⟩ : ByteArray)) := (blk_cell BK207.out 4).trans rfl
              have hfs16 := blk_frozen BK207.out 4
              have hns16_1 := NB208_207.out
              have hms16_1 := NB207_208.out
              refine skip_ (w1 := ?_) (by rfl) rfl ?_ ?_
              rotate_left
              · go_simp
                rfl
              refine hK.out _ _ ⟨((cell_far (p := ⟨gb207, _, none⟩) (by first | exact Nat.ne_of_lt (Nat.lt_of_lt_of_le (by have := World.block_lt_of_cell? _ _ hw205_0; first | rwa [add_block] at this | exact this) GW207.out) | (rw [add_block]; exact Nat.ne_of_lt (Nat.lt_of_lt_of_le (by have := World.block_lt_of_cell? _ _ hw205_0; first | rwa [add_block] at this | exact this) GW207.out)) | (show (Addr.add _ _).block ≠ _; rw [add_block]; exact Nat.ne_of_lt (Nat.lt_of_lt_of_le (by have := World.block_lt_of_cell? _ _ hw205_0; first | rwa [add_block] at this | exact this) GW207.out)) | (dsimp only; exact Nat.ne_of_lt (Nat.lt_of_lt_of_le (by have := World.block_lt_of_cell? _ _ hw205_0; first | rwa [add_block] at this | exact this) GW207.out))) _).trans (((cell_far (p := ⟨gb207, _, none⟩) (by first | exact Nat.ne_of_lt (Nat.lt_of_lt_of_le (by have := World.block_lt_of_cell? _ _ hw205_0; first | rwa [add_block] at this | exact this) GW207.out) | (rw [add_block]; exact Nat.ne_of_lt (Nat.lt_of_lt_of_le (by have := World.block_lt_of_cell? _ _ hw205_0; first | rwa [add_block] at this | exact this) GW207.out)) | (show (Addr.add _ _).block ≠ _; rw [add_block]; exact Nat.ne_of_lt (Nat.lt_of_lt_of_le (by have := World.block_lt_of_cell? _ _ hw205_0; first | rwa [add_block] at this | exact this) GW207.out)) | (dsimp only; exact Nat.ne_of_lt (Nat.lt_of_lt_of_le (by have := World.block_lt_of_cell? _ _ hw205_0; first | rwa [add_block] at this | exact this) GW207.out))) _).trans (((cell_far (p := ⟨gb207, _, none⟩) (by first | exact Nat.ne_of_lt (Nat.lt_of_lt_of_le (by have := World.block_lt_of_cell? _ _ hw205_0; first | rwa [add_block] at this | exact this) GW207.out) | (rw [add_block]; exact Nat.ne_of_lt (Nat.lt_of_lt_of_le (by have := World.block_lt_of_cell? _ _ hw205_0; first | rwa [add_block] at this | exact this) GW207.out)) | (show (Addr.add _ _).block ≠ _; rw [add_block]; exact Nat.ne_of_lt (Nat.lt_of_lt_of_le (by have := World.block_lt_of_cell? _ _ hw205_0; first | rwa [add_block] at this | exact this) GW207.out)) | (dsimp only; exact Nat.ne_of_lt (Nat.lt_of_lt_of_le (by have := World.block_lt_of_cell? _ _ hw205_0; first | rwa [add_block] at this | exact this) GW207.out))) _).trans (((cell_far (p := ⟨gb207, _, none⟩) (by first | exact Nat.ne_of_lt (Nat.lt_of_lt_of_le (by have := World.block_lt_of_cell? _ _ hw205_0; first | rwa [add_block] at this | exact this) GW207.out) | (rw [add_block]; exact Nat.ne_of_lt (Nat.lt_of_lt_of_le (by have := World.block_lt_of_cell? _ _ hw205_0; first | rwa [add_block] at this | exact this) GW207.out)) | (show (Addr.add _ _).block ≠ _; rw [add_block]; exact Nat.ne_of_lt (Nat.lt_of_lt_of_le (by have := World.block_lt_of_cell? _ _ hw205_0; first | rwa [add_block] at this | exact this) GW207.out)) | (dsimp only; exact Nat.ne_of_lt (Nat.lt_of_lt_of_le (by have := World.block_lt_of_cell? _ _ hw205_0; first | rwa [add_block] at this | exact this) GW207.out))) _).trans (((cell_far (p := ⟨gb207, _, none⟩) (by first | exact Nat.ne_of_lt (Nat.lt_of_lt_of_le (by have := World.block_lt_of_cell? _ _ hw205_0; first | rwa [add_block] at this | exact this) GW207.out) | (rw [add_block]; exact Nat.ne_of_lt (Nat.lt_of_lt_of_le (by have := World.block_lt_of_cell? _ _ hw205_0; first | rwa [add_block] at this | exact this) GW207.out)) | (show (Addr.add _ _).block ≠ _; rw [add_block]; exact Nat.ne_of_lt (Nat.lt_of_lt_of_le (by have := World.block_lt_of_cell? _ _ hw205_0; first | rwa [add_block] at this | exact this) GW207.out)) | (dsimp only; exact Nat.ne_of_lt (Nat.lt_of_lt_of_le (by have := World.block_lt_of_cell? _ _ hw205_0; first | rwa [add_block] at this | exact this) GW207.out))) _).trans (hHeld.1)))))))))), ((cell_far (p := ⟨gb207, _, none⟩) (by first | exact Nat.ne_of_lt (Nat.lt_of_lt_of_le (by have := World.block_lt_of_cell? _ _ hw205_1; first | rwa [add_block] at this | exact this) GW207.out) | (rw [add_block]; exact Nat.ne_of_lt (Nat.lt_of_lt_of_le (by have := World.block_lt_of_cell? _ _ hw205_1; first | rwa [add_block] at this | exact this) GW207.out)) | (show (Addr.add _ _).block ≠ _; rw [add_block]; exact Nat.ne_of_lt (Nat.lt_of_lt_of_le (by have := World.block_lt_of_cell? _ _ hw205_1; first | rwa [add_block] at this | exact this) GW207.out)) | (dsimp only; exact Nat.ne_of_lt (Nat.lt_of_lt_of_le (by have := World.block_lt_of_cell? _ _ hw205_1; first | rwa [add_block] at this | exact this) GW207.out))) _).trans (((cell_far (p := ⟨gb207, _, none⟩) (by first | exact Nat.ne_of_lt (Nat.lt_of_lt_of_le (by have := World.block_lt_of_cell? _ _ hw205_1; first | rwa [add_block] at this | exact this) GW207.out) | (rw [add_block]; exact Nat.ne_of_lt (Nat.lt_of_lt_of_le (by have := World.block_lt_of_cell? _ _ hw205_1; first | rwa [add_block] at this | exact this) GW207.out)) | (show (Addr.add _ _).block ≠ _; rw [add_block]; exact Nat.ne_of_lt (Nat.lt_of_lt_of_le (by have := World.block_lt_of_cell? _ _ hw205_1; first | rwa [add_block] at this | exact this) GW207.out)) | (dsimp only; exact Nat.ne_of_lt (Nat.lt_of_lt_of_le (by have := World.block_lt_of_cell? _ _ hw205_1; first | rwa [add_block] at this | exact this) GW207.out))) _).trans (((cell_far (p := ⟨gb207, _, none⟩) (by first | exact Nat.ne_of_lt (Nat.lt_of_lt_of_le (by have := World.block_lt_of_cell? _ _ hw205_1; first | rwa [add_block] at this | exact this) GW207.out) | (rw [add_block]; exact Nat.ne_of_lt (Nat.lt_of_lt_of_le (by have := World.block_lt_of_cell? _ _ hw205_1; first | rwa [add_block] at this | exact this) GW207.out)) | (show (Addr.add _ _).block ≠ _; rw [add_block]; exact Nat.ne_of_lt (Nat.lt_of_lt_of_le (by have := World.block_lt_of_cell? _ _ hw205_1; first | rwa [add_block] at this | exact this) GW207.out)) | (dsimp only; exact Nat.ne_of_lt (Nat.lt_of_lt_of_le (by have := World.block_lt_of_cell? _ _ hw205_1; first | rwa [add_block] at this | exact this) GW207.out))) _).trans (((cell_far (p := ⟨gb207, _, none⟩) (by first | exact Nat.ne_of_lt (Nat.lt_of_lt_of_le (by have := World.block_lt_of_cell? _ _ hw205_1; first | rwa [add_block] at this | exact this) GW207.out) | (rw [add_block]; exact Nat.ne_of_lt (Nat.lt_of_lt_of_le (by have := World.block_lt_of_cell? _ _ hw205_1; first | rwa [add_block] at this | exact this) GW207.out)) | (show (Addr.add _ _).block ≠ _; rw [add_block]; exact Nat.ne_of_lt (Nat.lt_of_lt_of_le (by have := World.block_lt_of_cell? _ _ hw205_1; first | rwa [add_block] at this | exact this) GW207.out)) | (dsimp only; exact Nat.ne_of_lt (Nat.lt_of_lt_of_le (by have := World.block_lt_of_cell? _ _ hw205_1; first | rwa [add_block] at this | exact this) GW207.out))) _).trans (((cell_far (p := ⟨gb207, _, none⟩) (by first | exact Nat.ne_of_lt (Nat.lt_of_lt_of_le (by have := World.block_lt_of_cell? _ _ hw205_1; first | rwa [add_block] at this | exact this) GW207.out) | (rw [add_block]; exact Nat.ne_of_lt (Nat.lt_of_lt_of_le (by have := World.block_lt_of_cell? _ _ hw205_1; first | rwa [add_block] at this | exact this) GW207.out)) | (show (Addr.add _ _).block ≠ _; rw [add_block]; exact Nat.ne_of_lt (Nat.lt_of_lt_of_le (by have := World.block_lt_of_cell? _ _ hw205_1; first | rwa [add_block] at this | exact this) GW207.out)) | (dsimp only; exact Nat.ne_of_lt (Nat.lt_of_lt_of_le (by have := World.block_lt_of_cell? _ _ hw205_1; first | rwa [add_block] at this | exact this) GW207.out))) _).trans (hHeld.2.1)))))))))), ((cell_far (p := ⟨gb207, _, none⟩) (by first | exact Nat.ne_of_lt (Nat.lt_of_lt_of_le (by have := World.block_lt_of_cell? _ _ hw205_2; first | rwa [add_block] at this | exact this) GW207.out) | (rw [add_block]; exact Nat.ne_of_lt (Nat.lt_of_lt_of_le (by have := World.block_lt_of_cell? _ _ hw205_2; first | rwa [add_block] at this | exact this) GW207.out)) | (show (Addr.add _ _).block ≠ _; rw [add_block]; exact Nat.ne_of_lt (Nat.lt_of_lt_of_le (by have := World.block_lt_of_cell? _ _ hw205_2; first | rwa [add_block] at this | exact this) GW207.out)) | (dsimp only; exact Nat.ne_of_lt (Nat.lt_of_lt_of_le (by have := World.block_lt_of_cell? _ _ hw205_2; first | rwa [add_block] at this | exact this) GW207.out))) _).trans (((cell_far (p := ⟨gb207, _, none⟩) (by first | exact Nat.ne_of_lt (Nat.lt_of_lt_of_le (by have := World.block_lt_of_cell? _ _ hw205_2; first | rwa [add_block] at this | exact this) GW207.out) | (rw [add_block]; exact Nat.ne_of_lt (Nat.lt_of_lt_of_le (by have := World.block_lt_of_cell? _ _ hw205_2; first | rwa [add_block] at this | exact this) GW207.out)) | (show (Addr.add _ _).block ≠ _; rw [add_block]; exact Nat.ne_of_lt (Nat.lt_of_lt_of_le (by have := World.block_lt_of_cell? _ _ hw205_2; first | rwa [add_block] at this | exact this) GW207.out)) | (dsimp only; exact Nat.ne_of_lt (Nat.lt_of_lt_of_le (by have := World.block_lt_of_cell? _ _ hw205_2; first | rwa [add_block] at this | exact this) GW207.out))) _).trans (((cell_far (p := ⟨gb207, _, none⟩) (by first | exact Nat.ne_of_lt (Nat.lt_of_lt_of_le (by have := World.block_lt_of_cell? _ _ hw205_2; first | rwa [add_block] at this | exact this) GW207.out) | (rw [add_block]; exact Nat.ne_of_lt (Nat.lt_of_lt_of_le (by have := World.block_lt_of_cell? _ _ hw205_2; first | rwa [add_block] at this | exact this) GW207.out)) | (show (Addr.add _ _).block ≠ _; rw [add_block]; exact Nat.ne_of_lt (Nat.lt_of_lt_of_le (by have := World.block_lt_of_cell? _ _ hw205_2; first | rwa [add_block] at this | exact this) GW207.out)) | (dsimp only; exact Nat.ne_of_lt (Nat.lt_of_lt_of_le (by have := World.block_lt_of_cell? _ _ hw205_2; first | rwa [add_block] at this | exact this) GW207.out))) _).trans (((cell_far (p := ⟨gb207, _, none⟩) (by first | exact Nat.ne_of_lt (Nat.lt_of_lt_of_le (by have := World.block_lt_of_cell? _ _ hw205_2; first | rwa [add_block] at this | exact this) GW207.out) | (rw [add_block]; exact Nat.ne_of_lt (Nat.lt_of_lt_of_le (by have := World.block_lt_of_cell? _ _ hw205_2; first | rwa [add_block] at this | exact this) GW207.out)) | (show (Addr.add _ _).block ≠ _; rw [add_block]; exact Nat.ne_of_lt (Nat.lt_of_lt_of_le (by have := World.block_lt_of_cell? _ _ hw205_2; first | rwa [add_block] at this | exact this) GW207.out)) | (dsimp only; exact Nat.ne_of_lt (Nat.lt_of_lt_of_le (by have := World.block_lt_of_cell? _ _ hw205_2; first | rwa [add_block] at this | exact this) GW207.out))) _).trans (((cell_far (p := ⟨gb207, _, none⟩) (by first | exact Nat.ne_of_lt (Nat.lt_of_lt_of_le (by have := World.block_lt_of_cell? _ _ hw205_2; first | rwa [add_block] at this | exact this) GW207.out) | (rw [add_block]; exact Nat.ne_of_lt (Nat.lt_of_lt_of_le (by have := World.block_lt_of_cell? _ _ hw205_2; first | rwa [add_block] at this | exact this) GW207.out)) | (show (Addr.add _ _).block ≠ _; rw [add_block]; exact Nat.ne_of_lt (Nat.lt_of_lt_of_le (by have := World.block_lt_of_cell? _ _ hw205_2; first | rwa [add_block] at this | exact this) GW207.out)) | (dsimp only; exact Nat.ne_of_lt (Nat.lt_of_lt_of_le (by have := World.block_lt_of_cell? _ _ hw205_2; first | rwa [add_block] at this | exact this) GW207.out))) _).trans (hHeld.2.2.1)))))))))), ((cell_far (p := ⟨gb207, _, none⟩) (by first | exact Nat.ne_of_lt (Nat.lt_of_lt_of_le (by have := World.block_lt_of_cell? _ _ hw205_3; first | rwa [add_block] at this | exact this) GW207.out) | (rw [add_block]; exact Nat.ne_of_lt (Nat.lt_of_lt_of_le (by have := World.block_lt_of_cell? _ _ hw205_3; first | rwa [add_block] at this | exact this) GW207.out)) | (show (Addr.add _ _).block ≠ _; rw [add_block]; exact Nat.ne_of_lt (Nat.lt_of_lt_of_le (by have := World.block_lt_of_cell? _ _ hw205_3; first | rwa [add_block] at this | exact this) GW207.out)) | (dsimp only; exact Nat.ne_of_lt (Nat.lt_of_lt_of_le (by have := World.block_lt_of_cell? _ _ hw205_3; first | rwa [add_block] at this | exact this) GW207.out))) _).trans (((cell_far (p := ⟨gb207, _, none⟩) (by first | exact Nat.ne_of_lt (Nat.lt_of_lt_of_le (by have := World.block_lt_of_cell? _ _ hw205_3; first | rwa [add_block] at this | exact this) GW207.out) | (rw [add_block]; exact Nat.ne_of_lt (Nat.lt_of_lt_of_le (by have := World.block_lt_of_cell? _ _ hw205_3; first | rwa [add_block] at this | exact this) GW207.out)) | (show (Addr.add _ _).block ≠ _; rw [add_block]; exact Nat.ne_of_lt (Nat.lt_of_lt_of_le (by have := World.block_lt_of_cell? _ _ hw205_3; first | rwa [add_block] at this | exact this) GW207.out)) | (dsimp only; exact Nat.ne_of_lt (Nat.lt_of_lt_of_le (by have := World.block_lt_of_cell? _ _ hw205_3; first | rwa [add_block] at this | exact this) GW207.out))) _).trans (((cell_far (p := ⟨gb207, _, none⟩) (by first | exact Nat.ne_of_lt (Nat.lt_of_lt_of_le (by have := World.block_lt_of_cell? _ _ hw205_3; first | rwa [add_block] at this | exact this) GW207.out) | (rw [add_block]; exact Nat.ne_of_lt (Nat.lt_of_lt_of_le (by have := World.block_lt_of_cell? _ _ hw205_3; first | rwa [add_block] at this | exact this) GW207.out)) | (show (Addr.add _ _).block ≠ _; rw [add_block]; exact Nat.ne_of_lt (Nat.lt_of_lt_of_le (by have := World.block_lt_of_cell? _ _ hw205_3; first | rwa [add_block] at this | exact this) GW207.out)) | (dsimp only; exact Nat.ne_of_lt (Nat.lt_of_lt_of_le (by have := World.block_lt_of_cell? _ _ hw205_3; first | rwa [add_block] at this | exact this) GW207.out))) _).trans (((cell_far (p := ⟨gb207, _, none⟩) (by first | exact Nat.ne_of_lt (Nat.lt_of_lt_of_le (by have := World.block_lt_of_cell? _ _ hw205_3; first | rwa [add_block] at this | exact this) GW207.out) | (rw [add_block]; exact Nat.ne_of_lt (Nat.lt_of_lt_of_le (by have := World.block_lt_of_cell? _ _ hw205_3; first | rwa [add_block] at this | exact this) GW207.out)) | (show (Addr.add _ _).block ≠ _; rw [add_block]; exact Nat.ne_of_lt (Nat.lt_of_lt_of_le (by have := World.block_lt_of_cell? _ _ hw205_3; first | rwa [add_block] at this | exact this) GW207.out)) | (dsimp only; exact Nat.ne_of_lt (Nat.lt_of_lt_of_le (by have := World.block_lt_of_cell? _ _ hw205_3; first | rwa [add_block] at this | exact this) GW207.out))) _).trans (((cell_far (p := ⟨gb207, _, none⟩) (by first | exact Nat.ne_of_lt (Nat.lt_of_lt_of_le (by have := World.block_lt_of_cell? _ _ hw205_3; first | rwa [add_block] at this | exact this) GW207.out) | (rw [add_block]; exact Nat.ne_of_lt (Nat.lt_of_lt_of_le (by have := World.block_lt_of_cell? _ _ hw205_3; first | rwa [add_block] at this | exact this) GW207.out)) | (show (Addr.add _ _).block ≠ _; rw [add_block]; exact Nat.ne_of_lt (Nat.lt_of_lt_of_le (by have := World.block_lt_of_cell? _ _ hw205_3; first | rwa [add_block] at this | exact this) GW207.out)) | (dsimp only; exact Nat.ne_of_lt (Nat.lt_of_lt_of_le (by have := World.block_lt_of_cell? _ _ hw205_3; first | rwa [add_block] at this | exact this) GW207.out))) _).trans (hHeld.2.2.2.1)))))))))), ((cell_far (p := ⟨gb207, _, none⟩) (by first | exact Nat.ne_of_lt (Nat.lt_of_lt_of_le (by have := World.block_lt_of_cell? _ _ hw205_4; first | rwa [add_block] at this | exact this) GW207.out) | (rw [add_block]; exact Nat.ne_of_lt (Nat.lt_of_lt_of_le (by have := World.block_lt_of_cell? _ _ hw205_4; first | rwa [add_block] at this | exact this) GW207.out)) | (show (Addr.add _ _).block ≠ _; rw [add_block]; exact Nat.ne_of_lt (Nat.lt_of_lt_of_le (by have := World.block_lt_of_cell? _ _ hw205_4; first | rwa [add_block] at this | exact this) GW207.out)) | (dsimp only; exact Nat.ne_of_lt (Nat.lt_of_lt_of_le (by have := World.block_lt_of_cell? _ _ hw205_4; first | rwa [add_block] at this | exact this) GW207.out))) _).trans (((cell_far (p := ⟨gb207, _, none⟩) (by first | exact Nat.ne_of_lt (Nat.lt_of_lt_of_le (by have := World.block_lt_of_cell? _ _ hw205_4; first | rwa [add_block] at this | exact this) GW207.out) | (rw [add_block]; exact Nat.ne_of_lt (Nat.lt_of_lt_of_le (by have := World.block_lt_of_cell? _ _ hw205_4; first | rwa [add_block] at this | exact this) GW207.out)) | (show (Addr.add _ _).block ≠ _; rw [add_block]; exact Nat.ne_of_lt (Nat.lt_of_lt_of_le (by have := World.block_lt_of_cell? _ _ hw205_4; first | rwa [add_block] at this | exact this) GW207.out)) | (dsimp only; exact Nat.ne_of_lt (Nat.lt_of_lt_of_le (by have := World.block_lt_of_cell? _ _ hw205_4; first | rwa [add_block] at this | exact this) GW207.out))) _).trans (((cell_far (p := ⟨gb207, _, none⟩) (by first | exact Nat.ne_of_lt (Nat.lt_of_lt_of_le (by have := World.block_lt_of_cell? _ _ hw205_4; first | rwa [add_block] at this | exact this) GW207.out) | (rw [add_block]; exact Nat.ne_of_lt (Nat.lt_of_lt_of_le (by have := World.block_lt_of_cell? _ _ hw205_4; first | rwa [add_block] at this | exact this) GW207.out)) | (show (Addr.add _ _).block ≠ _; rw [add_block]; exact Nat.ne_of_lt (Nat.lt_of_lt_of_le (by have := World.block_lt_of_cell? _ _ hw205_4; first | rwa [add_block] at this | exact this) GW207.out)) | (dsimp only; exact Nat.ne_of_lt (Nat.lt_of_lt_of_le (by have := World.block_lt_of_cell? _ _ hw205_4; first | rwa [add_block] at this | exact this) GW207.out))) _).trans (((cell_far (p := ⟨gb207, _, none⟩) (by first | exact Nat.ne_of_lt (Nat.lt_of_lt_of_le (by have := World.block_lt_of_cell? _ _ hw205_4; first | rwa [add_block] at this | exact this) GW207.out) | (rw [add_block]; exact Nat.ne_of_lt (Nat.lt_of_lt_of_le (by have := World.block_lt_of_cell? _ _ hw205_4; first | rwa [add_block] at this | exact this) GW207.out)) | (show (Addr.add _ _).block ≠ _; rw [add_block]; exact Nat.ne_of_lt (Nat.lt_of_lt_of_le (by have := World.block_lt_of_cell? _ _ hw205_4; first | rwa [add_block] at this | exact this) GW207.out)) | (dsimp only; exact Nat.ne_of_lt (Nat.lt_of_lt_of_le (by have := World.block_lt_of_cell? _ _ hw205_4; first | rwa [add_block] at this | exact this) GW207.out))) _).trans (((cell_far (p := ⟨gb207, _, none⟩) (by first | exact Nat.ne_of_lt (Nat.lt_of_lt_of_le (by have := World.block_lt_of_cell? _ _ hw205_4; first | rwa [add_block] at this | exact this) GW207.out) | (rw [add_block]; exact Nat.ne_of_lt (Nat.lt_of_lt_of_le (by have := World.block_lt_of_cell? _ _ hw205_4; first | rwa [add_block] at this | exact this) GW207.out)) | (show (Addr.add _ _).block ≠ _; rw [add_block]; exact Nat.ne_of_lt (Nat.lt_of_lt_of_le (by have := World.block_lt_of_cell? _ _ hw205_4; first | rwa [add_block] at this | exact this) GW207.out)) | (dsimp only; exact Nat.ne_of_lt (Nat.lt_of_lt_of_le (by have := World.block_lt_of_cell? _ _ hw205_4; first | rwa [add_block] at this | exact this) GW207.out))) _).trans (hHeld.2.2.2.2.1)))))))))), ((cell_far (p := ⟨gb207, _, none⟩) (by first | exact Nat.ne_of_lt (Nat.lt_of_lt_of_le (by have := World.block_lt_of_cell? _ _ hw206_0; first | rwa [add_block] at this | exact this) GW207.out) | (rw [add_block]; exact Nat.ne_of_lt (Nat.lt_of_lt_of_le (by have := World.block_lt_of_cell? _ _ hw206_0; first | rwa [add_block] at this | exact this) GW207.out)) | (show (Addr.add _ _).block ≠ _; rw [add_block]; exact Nat.ne_of_lt (Nat.lt_of_lt_of_le (by have := World.block_lt_of_cell? _ _ hw206_0; first | rwa [add_block] at this | exact this) GW207.out)) | (dsimp only; exact Nat.ne_of_lt (Nat.lt_of_lt_of_le (by have := World.block_lt_of_cell? _ _ hw206_0; first | rwa [add_block] at this | exact this) GW207.out))) _).trans (((cell_far (p := ⟨gb207, _, none⟩) (by first | exact Nat.ne_of_lt (Nat.lt_of_lt_of_le (by have := World.block_lt_of_cell? _ _ hw206_0; first | rwa [add_block] at this | exact this) GW207.out) | (rw [add_block]; exact Nat.ne_of_lt (Nat.lt_of_lt_of_le (by have := World.block_lt_of_cell? _ _ hw206_0; first | rwa [add_block] at this | exact this) GW207.out)) | (show (Addr.add _ _).block ≠ _; rw [add_block]; exact Nat.ne_of_lt (Nat.lt_of_lt_of_le (by have := World.block_lt_of_cell? _ _ hw206_0; first | rwa [add_block] at this | exact this) GW207.out)) | (dsimp only; exact Nat.ne_of_lt (Nat.lt_of_lt_of_le (by have := World.block_lt_of_cell? _ _ hw206_0; first | rwa [add_block] at this | exact this) GW207.out))) _).trans (((cell_far (p := ⟨gb207, _, none⟩) (by first | exact Nat.ne_of_lt (Nat.lt_of_lt_of_le (by have := World.block_lt_of_cell? _ _ hw206_0; first | rwa [add_block] at this | exact this) GW207.out) | (rw [add_block]; exact Nat.ne_of_lt (Nat.lt_of_lt_of_le (by have := World.block_lt_of_cell? _ _ hw206_0; first | rwa [add_block] at this | exact this) GW207.out)) | (show (Addr.add _ _).block ≠ _; rw [add_block]; exact Nat.ne_of_lt (Nat.lt_of_lt_of_le (by have := World.block_lt_of_cell? _ _ hw206_0; first | rwa [add_block] at this | exact this) GW207.out)) | (dsimp only; exact Nat.ne_of_lt (Nat.lt_of_lt_of_le (by have := World.block_lt_of_cell? _ _ hw206_0; first | rwa [add_block] at this | exact this) GW207.out))) _).trans (((cell_far (p := ⟨gb207, _, none⟩) (by first | exact Nat.ne_of_lt (Nat.lt_of_lt_of_le (by have := World.block_lt_of_cell? _ _ hw206_0; first | rwa [add_block] at this | exact this) GW207.out) | (rw [add_block]; exact Nat.ne_of_lt (Nat.lt_of_lt_of_le (by have := World.block_lt_of_cell? _ _ hw206_0; first | rwa [add_block] at this | exact this) GW207.out)) | (show (Addr.add _ _).block ≠ _; rw [add_block]; exact Nat.ne_of_lt (Nat.lt_of_lt_of_le (by have := World.block_lt_of_cell? _ _ hw206_0; first | rwa [add_block] at this | exact this) GW207.out)) | (dsimp only; exact Nat.ne_of_lt (Nat.lt_of_lt_of_le (by have := World.block_lt_of_cell? _ _ hw206_0; first | rwa [add_block] at this | exact this) GW207.out))) _).trans (((cell_far (p := ⟨gb207, _, none⟩) (by first | exact Nat.ne_of_lt (Nat.lt_of_lt_of_le (by have := World.block_lt_of_cell? _ _ hw206_0; first | rwa [add_block] at this | exact this) GW207.out) | (rw [add_block]; exact Nat.ne_of_lt (Nat.lt_of_lt_of_le (by have := World.block_lt_of_cell? _ _ hw206_0; first | rwa [add_block] at this | exact this) GW207.out)) | (show (Addr.add _ _).block ≠ _; rw [add_block]; exact Nat.ne_of_lt (Nat.lt_of_lt_of_le (by have := World.block_lt_of_cell? _ _ hw206_0; first | rwa [add_block] at this | exact this) GW207.out)) | (dsimp only; exact Nat.ne_of_lt (Nat.lt_of_lt_of_le (by have := World.block_lt_of_cell? _ _ hw206_0; first | rwa [add_block] at this | exact this) GW207.out))) _).trans (hHeld.2.2.2.2.2.1)))))))))), ((cell_far (p := ⟨gb207, _, none⟩) (by first | exact Nat.ne_of_lt (Nat.lt_of_lt_of_le (by have := World.block_lt_of_cell? _ _ hw206_1; first | rwa [add_block] at this | exact this) GW207.out) | (rw [add_block]; exact Nat.ne_of_lt (Nat.lt_of_lt_of_le (by have := World.block_lt_of_cell? _ _ hw206_1; first | rwa [add_block] at this | exact this) GW207.out)) | (show (Addr.add _ _).block ≠ _; rw [add_block]; exact Nat.ne_of_lt (Nat.lt_of_lt_of_le (by have := World.block_lt_of_cell? _ _ hw206_1; first | rwa [add_block] at this | exact this) GW207.out)) | (dsimp only; exact Nat.ne_of_lt (Nat.lt_of_lt_of_le (by have := World.block_lt_of_cell? _ _ hw206_1; first | rwa [add_block] at this | exact this) GW207.out))) _).trans (((cell_far (p := ⟨gb207, _, none⟩) (by first | exact Nat.ne_of_lt (Nat.lt_of_lt_of_le (by have := World.block_lt_of_cell? _ _ hw206_1; first | rwa [add_block] at this | exact this) GW207.out) | (rw [add_block]; exact Nat.ne_of_lt (Nat.lt_of_lt_of_le (by have := World.block_lt_of_cell? _ _ hw206_1; first | rwa [add_block] at this | exact this) GW207.out)) | (show (Addr.add _ _).block ≠ _; rw [add_block]; exact Nat.ne_of_lt (Nat.lt_of_lt_of_le (by have := World.block_lt_of_cell? _ _ hw206_1; first | rwa [add_block] at this | exact this) GW207.out)) | (dsimp only; exact Nat.ne_of_lt (Nat.lt_of_lt_of_le (by have := World.block_lt_of_cell? _ _ hw206_1; first | rwa [add_block] at this | exact this) GW207.out))) _).trans (((cell_far (p := ⟨gb207, _, none⟩) (by first | exact Nat.ne_of_lt (Nat.lt_of_lt_of_le (by have := World.block_lt_of_cell? _ _ hw206_1; first | rwa [add_block] at this | exact this) GW207.out) | (rw [add_block]; exact Nat.ne_of_lt (Nat.lt_of_lt_of_le (by have := World.block_lt_of_cell? _ _ hw206_1; first | rwa [add_block] at this | exact this) GW207.out)) | (show (Addr.add _ _).block ≠ _; rw [add_block]; exact Nat.ne_of_lt (Nat.lt_of_lt_of_le (by have := World.block_lt_of_cell? _ _ hw206_1; first | rwa [add_block] at this | exact this) GW207.out)) | (dsimp only; exact Nat.ne_of_lt (Nat.lt_of_lt_of_le (by have := World.block_lt_of_cell? _ _ hw206_1; first | rwa [add_block] at this | exact this) GW207.out))) _).trans (((cell_far (p := ⟨gb207, _, none⟩) (by first | exact Nat.ne_of_lt (Nat.lt_of_lt_of_le (by have := World.block_lt_of_cell? _ _ hw206_1; first | rwa [add_block] at this | exact this) GW207.out) | (rw [add_block]; exact Nat.ne_of_lt (Nat.lt_of_lt_of_le (by have := World.block_lt_of_cell? _ _ hw206_1; first | rwa [add_block] at this | exact this) GW207.out)) | (show (Addr.add _ _).block ≠ _; rw [add_block]; exact Nat.ne_of_lt (Nat.lt_of_lt_of_le (by have := World.block_lt_of_cell? _ _ hw206_1; first | rwa [add_block] at this | exact this) GW207.out)) | (dsimp only; exact Nat.ne_of_lt (Nat.lt_of_lt_of_le (by have := World.block_lt_of_cell? _ _ hw206_1; first | rwa [add_block] at this | exact this) GW207.out))) _).trans (((cell_far (p := ⟨gb207, _, none⟩) (by first | exact Nat.ne_of_lt (Nat.lt_of_lt_of_le (by have := World.block_lt_of_cell? _ _ hw206_1; first | rwa [add_block] at this | exact this) GW207.out) | (rw [add_block]; exact Nat.ne_of_lt (Nat.lt_of_lt_of_le (by have := World.block_lt_of_cell? _ _ hw206_1; first | rwa [add_block] at this | exact this) GW207.out)) | (show (Addr.add _ _).block ≠ _; rw [add_block]; exact Nat.ne_of_lt (Nat.lt_of_lt_of_le (by have := World.block_lt_of_cell? _ _ hw206_1; first | rwa [add_block] at this | exact this) GW207.out)) | (dsimp only; exact Nat.ne_of_lt (Nat.lt_of_lt_of_le (by have := World.block_lt_of_cell? _ _ hw206_1; first | rwa [add_block] at this | exact this) GW207.out))) _).trans (hHeld.2.2.2.2.2.2.1)))))))))), ((cell_far (p := ⟨gb207, _, none⟩) (by first | exact Nat.ne_of_lt (Nat.lt_of_lt_of_le (by have := World.block_lt_of_cell? _ _ hw206_2; first | rwa [add_block] at this | exact this) GW207.out) | (rw [add_block]; exact Nat.ne_of_lt (Nat.lt_of_lt_of_le (by have := World.block_lt_of_cell? _ _ hw206_2; first | rwa [add_block] at this | exact this) GW207.out)) | (show (Addr.add _ _).block ≠ _; rw [add_block]; exact Nat.ne_of_lt (Nat.lt_of_lt_of_le (by have := World.block_lt_of_cell? _ _ hw206_2; first | rwa [add_block] at this | exact this) GW207.out)) | (dsimp only; exact Nat.ne_of_lt (Nat.lt_of_lt_of_le (by have := World.block_lt_of_cell? _ _ hw206_2; first | rwa [add_block] at this | exact this) GW207.out))) _).trans (((cell_far (p := ⟨gb207, _, none⟩) (by first | exact Nat.ne_of_lt (Nat.lt_of_lt_of_le (by have := World.block_lt_of_cell? _ _ hw206_2; first | rwa [add_block] at this | exact this) GW207.out) | (rw [add_block]; exact Nat.ne_of_lt (Nat.lt_of_lt_of_le (by have := World.block_lt_of_cell? _ _ hw206_2; first | rwa [add_block] at this | exact this) GW207.out)) | (show (Addr.add _ _).block ≠ _; rw [add_block]; exact Nat.ne_of_lt (Nat.lt_of_lt_of_le (by have := World.block_lt_of_cell? _ _ hw206_2; first | rwa [add_block] at this | exact this) GW207.out)) | (dsimp only; exact Nat.ne_of_lt (Nat.lt_of_lt_of_le (by have := World.block_lt_of_cell? _ _ hw206_2; first | rwa [add_block] at this | exact this) GW207.out))) _).trans (((cell_far (p := ⟨gb207, _, none⟩) (by first | exact Nat.ne_of_lt (Nat.lt_of_lt_of_le (by have := World.block_lt_of_cell? _ _ hw206_2; first | rwa [add_block] at this | exact this) GW207.out) | (rw [add_block]; exact Nat.ne_of_lt (Nat.lt_of_lt_of_le (by have := World.block_lt_of_cell? _ _ hw206_2; first | rwa [add_block] at this | exact this) GW207.out)) | (show (Addr.add _ _).block ≠ _; rw [add_block]; exact Nat.ne_of_lt (Nat.lt_of_lt_of_le (by have := World.block_lt_of_cell? _ _ hw206_2; first | rwa [add_block] at this | exact this) GW207.out)) | (dsimp only; exact Nat.ne_of_lt (Nat.lt_of_lt_of_le (by have := World.block_lt_of_cell? _ _ hw206_2; first | rwa [add_block] at this | exact this) GW207.out))) _).trans (((cell_far (p := ⟨gb207, _, none⟩) (by first | exact Nat.ne_of_lt (Nat.lt_of_lt_of_le (by have := World.block_lt_of_cell? _ _ hw206_2; first | rwa [add_block] at this | exact this) GW207.out) | (rw [add_block]; exact Nat.ne_of_lt (Nat.lt_of_lt_of_le (by have := World.block_lt_of_cell? _ _ hw206_2; first | rwa [add_block] at this | exact this) GW207.out)) | (show (Addr.add _ _).block ≠ _; rw [add_block]; exact Nat.ne_of_lt (Nat.lt_of_lt_of_le (by have := World.block_lt_of_cell? _ _ hw206_2; first | rwa [add_block] at this | exact this) GW207.out)) | (dsimp only; exact Nat.ne_of_lt (Nat.lt_of_lt_of_le (by have := World.block_lt_of_cell? _ _ hw206_2; first | rwa [add_block] at this | exact this) GW207.out))) _).trans (((cell_far (p := ⟨gb207, _, none⟩) (by first | exact Nat.ne_of_lt (Nat.lt_of_lt_of_le (by have := World.block_lt_of_cell? _ _ hw206_2; first | rwa [add_block] at this | exact this) GW207.out) | (rw [add_block]; exact Nat.ne_of_lt (Nat.lt_of_lt_of_le (by have := World.block_lt_of_cell? _ _ hw206_2; first | rwa [add_block] at this | exact this) GW207.out)) | (show (Addr.add _ _).block ≠ _; rw [add_block]; exact Nat.ne_of_lt (Nat.lt_of_lt_of_le (by have := World.block_lt_of_cell? _ _ hw206_2; first | rwa [add_block] at this | exact this) GW207.out)) | (dsimp only; exact Nat.ne_of_lt (Nat.lt_of_lt_of_le (by have := World.block_lt_of_cell? _ _ hw206_2; first | rwa [add_block] at this | exact this) GW207.out))) _).trans (hHeld.2.2.2.2.2.2.2.1)))))))))), ((cell_far (p := ⟨gb207, _, none⟩) (by first | exact Nat.ne_of_lt (Nat.lt_of_lt_of_le (by have := World.block_lt_of_cell? _ _ hw206_3; first | rwa [add_block] at this | exact this) GW207.out) | (rw [add_block]; exact Nat.ne_of_lt (Nat.lt_of_lt_of_le (by have := World.block_lt_of_cell? _ _ hw206_3; first | rwa [add_block] at this | exact this) GW207.out)) | (show (Addr.add _ _).block ≠ _; rw [add_block]; exact Nat.ne_of_lt (Nat.lt_of_lt_of_le (by have := World.block_lt_of_cell? _ _ hw206_3; first | rwa [add_block] at this | exact this) GW207.out)) | (dsimp only; exact Nat.ne_of_lt (Nat.lt_of_lt_of_le (by have := World.block_lt_of_cell? _ _ hw206_3; first | rwa [add_block] at this | exact this) GW207.out))) _).trans (((cell_far (p := ⟨gb207, _, none⟩) (by first | exact Nat.ne_of_lt (Nat.lt_of_lt_of_le (by have := World.block_lt_of_cell? _ _ hw206_3; first | rwa [add_block] at this | exact this) GW207.out) | (rw [add_block]; exact Nat.ne_of_lt (Nat.lt_of_lt_of_le (by have := World.block_lt_of_cell? _ _ hw206_3; first | rwa [add_block] at this | exact this) GW207.out)) | (show (Addr.add _ _).block ≠ _; rw [add_block]; exact Nat.ne_of_lt (Nat.lt_of_lt_of_le (by have := World.block_lt_of_cell? _ _ hw206_3; first | rwa [add_block] at this | exact this) GW207.out)) | (dsimp only; exact Nat.ne_of_lt (Nat.lt_of_lt_of_le (by have := World.block_lt_of_cell? _ _ hw206_3; first | rwa [add_block] at this | exact this) GW207.out))) _).trans (((cell_far (p := ⟨gb207, _, none⟩) (by first | exact Nat.ne_of_lt (Nat.lt_of_lt_of_le (by have := World.block_lt_of_cell? _ _ hw206_3; first | rwa [add_block] at this | exact this) GW207.out) | (rw [add_block]; exact Nat.ne_of_lt (Nat.lt_of_lt_of_le (by have := World.block_lt_of_cell? _ _ hw206_3; first | rwa [add_block] at this | exact this) GW207.out)) | (show (Addr.add _ _).block ≠ _; rw [add_block]; exact Nat.ne_of_lt (Nat.lt_of_lt_of_le (by have := World.block_lt_of_cell? _ _ hw206_3; first | rwa [add_block] at this | exact this) GW207.out)) | (dsimp only; exact Nat.ne_of_lt (Nat.lt_of_lt_of_le (by have := World.block_lt_of_cell? _ _ hw206_3; first | rwa [add_block] at this | exact this) GW207.out))) _).trans (((cell_far (p := ⟨gb207, _, none⟩) (by first | exact Nat.ne_of_lt (Nat.lt_of_lt_of_le (by have := World.block_lt_of_cell? _ _ hw206_3; first | rwa [add_block] at this | exact this) GW207.out) | (rw [add_block]; exact Nat.ne_of_lt (Nat.lt_of_lt_of_le (by have := World.block_lt_of_cell? _ _ hw206_3; first | rwa [add_block] at this | exact this) GW207.out)) | (show (Addr.add _ _).block ≠ _; rw [add_block]; exact Nat.ne_of_lt (Nat.lt_of_lt_of_le (by have := World.block_lt_of_cell? _ _ hw206_3; first | rwa [add_block] at this | exact this) GW207.out)) | (dsimp only; exact Nat.ne_of_lt (Nat.lt_of_lt_of_le (by have := World.block_lt_of_cell? _ _ hw206_3; first | rwa [add_block] at this | exact this) GW207.out))) _).trans (((cell_far (p := ⟨gb207, _, none⟩) (by first | exact Nat.ne_of_lt (Nat.lt_of_lt_of_le (by have := World.block_lt_of_cell? _ _ hw206_3; first | rwa [add_block] at this | exact this) GW207.out) | (rw [add_block]; exact Nat.ne_of_lt (Nat.lt_of_lt_of_le (by have := World.block_lt_of_cell? _ _ hw206_3; first | rwa [add_block] at this | exact this) GW207.out)) | (show (Addr.add _ _).block ≠ _; rw [add_block]; exact Nat.ne_of_lt (Nat.lt_of_lt_of_le (by have := World.block_lt_of_cell? _ _ hw206_3; first | rwa [add_block] at this | exact this) GW207.out)) | (dsimp only; exact Nat.ne_of_lt (Nat.lt_of_lt_of_le (by have := World.block_lt_of_cell? _ _ hw206_3; first | rwa [add_block] at this | exact this) GW207.out))) _).trans (hHeld.2.2.2.2.2.2.2.2.1)))))))))), ((cell_far (p := ⟨gb207, _, none⟩) (by first | exact Nat.ne_of_lt (Nat.lt_of_lt_of_le (by have := World.block_lt_of_cell? _ _ hw206_4; first | rwa [add_block] at this | exact this) GW207.out) | (rw [add_block]; exact Nat.ne_of_lt (Nat.lt_of_lt_of_le (by have := World.block_lt_of_cell? _ _ hw206_4; first | rwa [add_block] at this | exact this) GW207.out)) | (show (Addr.add _ _).block ≠ _; rw [add_block]; exact Nat.ne_of_lt (Nat.lt_of_lt_of_le (by have := World.block_lt_of_cell? _ _ hw206_4; first | rwa [add_block] at this | exact this) GW207.out)) | (dsimp only; exact Nat.ne_of_lt (Nat.lt_of_lt_of_le (by have := World.block_lt_of_cell? _ _ hw206_4; first | rwa [add_block] at this | exact this) GW207.out))) _).trans (((cell_far (p := ⟨gb207, _, none⟩) (by first | exact Nat.ne_of_lt (Nat.lt_of_lt_of_le (by have := World.block_lt_of_cell? _ _ hw206_4; first | rwa [add_block] at this | exact this) GW207.out) | (rw [add_block]; exact Nat.ne_of_lt (Nat.lt_of_lt_of_le (by have := World.block_lt_of_cell? _ _ hw206_4; first | rwa [add_block] at this | exact this) GW207.out)) | (show (Addr.add _ _).block ≠ _; rw [add_block]; exact Nat.ne_of_lt (Nat.lt_of_lt_of_le (by have := World.block_lt_of_cell? _ _ hw206_4; first | rwa [add_block] at this | exact this) GW207.out)) | (dsimp only; exact Nat.ne_of_lt (Nat.lt_of_lt_of_le (by have := World.block_lt_of_cell? _ _ hw206_4; first | rwa [add_block] at this | exact this) GW207.out))) _).trans (((cell_far (p := ⟨gb207, _, none⟩) (by first | exact Nat.ne_of_lt (Nat.lt_of_lt_of_le (by have := World.block_lt_of_cell? _ _ hw206_4; first | rwa [add_block] at this | exact this) GW207.out) | (rw [add_block]; exact Nat.ne_of_lt (Nat.lt_of_lt_of_le (by have := World.block_lt_of_cell? _ _ hw206_4; first | rwa [add_block] at this | exact this) GW207.out)) | (show (Addr.add _ _).block ≠ _; rw [add_block]; exact Nat.ne_of_lt (Nat.lt_of_lt_of_le (by have := World.block_lt_of_cell? _ _ hw206_4; first | rwa [add_block] at this | exact this) GW207.out)) | (dsimp only; exact Nat.ne_of_lt (Nat.lt_of_lt_of_le (by have := World.block_lt_of_cell? _ _ hw206_4; first | rwa [add_block] at this | exact this) GW207.out))) _).trans (((cell_far (p := ⟨gb207, _, none⟩) (by first | exact Nat.ne_of_lt (Nat.lt_of_lt_of_le (by have := World.block_lt_of_cell? _ _ hw206_4; first | rwa [add_block] at this | exact this) GW207.out) | (rw [add_block]; exact Nat.ne_of_lt (Nat.lt_of_lt_of_le (by have := World.block_lt_of_cell? _ _ hw206_4; first | rwa [add_block] at this | exact this) GW207.out)) | (show (Addr.add _ _).block ≠ _; rw [add_block]; exact Nat.ne_of_lt (Nat.lt_of_lt_of_le (by have := World.block_lt_of_cell? _ _ hw206_4; first | rwa [add_block] at this | exact this) GW207.out)) | (dsimp only; exact Nat.ne_of_lt (Nat.lt_of_lt_of_le (by have := World.block_lt_of_cell? _ _ hw206_4; first | rwa [add_block] at this | exact this) GW207.out))) _).trans (((cell_far (p := ⟨gb207, _, none⟩) (by first | exact Nat.ne_of_lt (Nat.lt_of_lt_of_le (by have := World.block_lt_of_cell? _ _ hw206_4; first | rwa [add_block] at this | exact this) GW207.out) | (rw [add_block]; exact Nat.ne_of_lt (Nat.lt_of_lt_of_le (by have := World.block_lt_of_cell? _ _ hw206_4; first | rwa [add_block] at this | exact this) GW207.out)) | (show (Addr.add _ _).block ≠ _; rw [add_block]; exact Nat.ne_of_lt (Nat.lt_of_lt_of_le (by have := World.block_lt_of_cell? _ _ hw206_4; first | rwa [add_block] at this | exact this) GW207.out)) | (dsimp only; exact Nat.ne_of_lt (Nat.lt_of_lt_of_le (by have := World.block_lt_of_cell? _ _ hw206_4; first | rwa [add_block] at this | exact this) GW207.out))) _).trans (hHeld.2.2.2.2.2.2.2.2.2))))))))))⟩ (fun hHeld => ?_)
              clear hK K
              refine one_ (i := 11) (N := none) #[true, true, true, true, true, true, true, true, true, true, true, true] rfl rfl (one_of HT_.out (by kernel_rfl)) (by decide) (fun K hK => ?_)
              have hs17 : w11.cell? ⟨gb208, 0, none⟩ = some (.string (⟨#[]⟩ : ByteArray)) := (blk_cell BK208.out 0).trans rfl
              have hfs17 := blk_frozen BK208.out 0
              have hns17_0 := NB207_208.out
              have hms17_0 := NB208_207.out
              have hs18 : w11.cell? ⟨gb208, 1, none⟩ = some (.slice none 0 0) := (blk_cell BK208.out 1).trans rfl
              have hfs18 := blk_frozen BK208.out 1
              have hns18_0 := NB207_208.out
              have hms18_0 := NB208_207.out
              have hs19 : w11.cell? ⟨gb208, 2, none⟩ = some (.slice none 0 0) := (blk_cell BK208.out 2).trans rfl
              have hfs19 := blk_frozen BK208.out 2
              have hns19_0 := NB207_208.out
              have hms19_0 := NB208_207.out
              have hs20 : w11.cell? ⟨gb208, 3, none⟩ = some (.string (⟨#[]⟩ : ByteArray)) := (blk_cell BK208.out 3).trans rfl
              have hfs20 := blk_frozen BK208.out 3
              have hns20_0 := NB207_208.out
              have hms20_0 := NB208_207.out
              have hs21 : w11.cell? ⟨gb208, 4, none⟩ = some (.string (⟨#[]⟩ : ByteArray)) := (blk_cell BK208.out 4).trans rfl
              have hfs21 := blk_frozen BK208.out 4
              have hns21_0 := NB207_208.out
              have hms21_0 := NB208_207.out
              refine skip_ (w1 := ?_) (by rfl) rfl ?_ ?_
              rotate_left
              · go_simp
                rfl
              refine hK.out _ _ ⟨((cell_far (p := ⟨gb208, _, none⟩) (by first | exact Nat.ne_of_lt (Nat.lt_of_lt_of_le (by have := World.block_lt_of_cell? _ _ hw205_0; first | rwa [add_block] at this | exact this) GW208.out) | (rw [add_block]; exact Nat.ne_of_lt (Nat.lt_of_lt_of_le (by have := World.block_lt_of_cell? _ _ hw205_0; first | rwa [add_block] at this | exact this) GW208.out)) | (show (Addr.add _ _).block ≠ _; rw [add_block]; exact Nat.ne_of_lt (Nat.lt_of_lt_of_le (by have := World.block_lt_of_cell? _ _ hw205_0; first | rwa [add_block] at this | exact this) GW208.out)) | (dsimp only; exact Nat.ne_of_lt (Nat.lt_of_lt_of_le (by have := World.block_lt_of_cell? _ _ hw205_0; first | rwa [add_block] at this | exact this) GW208.out))) _).trans (((cell_far (p := ⟨gb208, _, none⟩) (by first | exact Nat.ne_of_lt (Nat.lt_of_lt_of_le (by have := World.block_lt_of_cell? _ _ hw205_0; first | rwa [add_block] at this | exact this) GW208.out) | (rw [add_block]; exact Nat.ne_of_lt (Nat.lt_of_lt_of_le (by have := World.block_lt_of_cell? _ _ hw205_0; first | rwa [add_block] at this | exact this) GW208.out)) | (show (Addr.add _ _).block ≠ _; rw [add_block]; exact Nat.ne_of_lt (Nat.lt_of_lt_of_le (by have := World.block_lt_of_cell? _ _ hw205_0; first | rwa [add_block] at this | exact this) GW208.out)) | (dsimp only; exact Nat.ne_of_lt (Nat.lt_of_lt_of_le (by have := World.block_lt_of_cell? _ _ hw205_0; first | rwa [add_block] at this | exact this) GW208.out))) _).trans (((cell_far (p := ⟨gb208, _, none⟩) (by first | exact Nat.ne_of_lt (Nat.lt_of_lt_of_le (by have := World.block_lt_of_cell? _ _ hw205_0; first | rwa [add_block] at this | exact this) GW208.out) | (rw [add_block]; exact Nat.ne_of_lt (Nat.lt_of_lt_of_le (by have := World.block_lt_of_cell? _ _ hw205_0; first | rwa [add_block] at this | exact this) GW208.out)) | (show (Addr.add _ _).block ≠ _; rw [add_block]; exact Nat.ne_of_lt (Nat.lt_of_lt_of_le (by have := World.block_lt_of_cell? _ _ hw205_0; first | rwa [add_block] at this | exact this) GW208.out)) | (dsimp only; exact Nat.ne_of_lt (Nat.lt_of_lt_of_le (by have := World.block_lt_of_cell? _ _ hw205_0; first | rwa [add_block] at this | exact this) GW208.out))) _).trans (((cell_far (p := ⟨gb208, _, none⟩) (by first | exact Nat.ne_of_lt (Nat.lt_of_lt_of_le (by have := World.block_lt_of_cell? _ _ hw205_0; first | rwa [add_block] at this | exact this) GW208.out) | (rw [add_block]; exact Nat.ne_of_lt (Nat.lt_of_lt_of_le (by have := World.block_lt_of_cell? _ _ hw205_0; first | rwa [add_block] at this | exact this) GW208.out)) | (show (Addr.add _ _).block ≠ _; rw [add_block]; exact Nat.ne_of_lt (Nat.lt_of_lt_of_le (by have := World.block_lt_of_cell? _ _ hw205_0; first | rwa [add_block] at this | exact this) GW208.out)) | (dsimp only; exact Nat.ne_of_lt (Nat.lt_of_lt_of_le (by have := World.block_lt_of_cell? _ _ hw205_0; first | rwa [add_block] at this | exact this) GW208.out))) _).trans (((cell_far (p := ⟨gb208, _, none⟩) (by first | exact Nat.ne_of_lt (Nat.lt_of_lt_of_le (by have := World.block_lt_of_cell? _ _ hw205_0; first | rwa [add_block] at this | exact this) GW208.out) | (rw [add_block]; exact Nat.ne_of_lt (Nat.lt_of_lt_of_le (by have := World.block_lt_of_cell? _ _ hw205_0; first | rwa [add_block] at this | exact this) GW208.out)) | (show (Addr.add _ _).block ≠ _; rw [add_block]; exact Nat.ne_of_lt (Nat.lt_of_lt_of_le (by have := World.block_lt_of_cell? _ _ hw205_0; first | rwa [add_block] at this | exact this) GW208.out)) | (dsimp only; exact Nat.ne_of_lt (Nat.lt_of_lt_of_le (by have := World.block_lt_of_cell? _ _ hw205_0; first | rwa [add_block] at this | exact this) GW208.out))) _).trans (hHeld.1)))))))))), ((cell_far (p := ⟨gb208, _, none⟩) (by first | exact Nat.ne_of_lt (Nat.lt_of_lt_of_le (by have := World.block_lt_of_cell? _ _ hw205_1; first | rwa [add_block] at this | exact this) GW208.out) | (rw [add_block]; exact Nat.ne_of_lt (Nat.lt_of_lt_of_le (by have := World.block_lt_of_cell? _ _ hw205_1; first | rwa [add_block] at this | exact this) GW208.out)) | (show (Addr.add _ _).block ≠ _; rw [add_block]; exact Nat.ne_of_lt (Nat.lt_of_lt_of_le (by have := World.block_lt_of_cell? _ _ hw205_1; first | rwa [add_block] at this | exact this) GW208.out)) | (dsimp only; exact Nat.ne_of_lt (Nat.lt_of_lt_of_le (by have := World.block_lt_of_cell? _ _ hw205_1; first | rwa [add_block] at this | exact this) GW208.out))) _).trans (((cell_far (p := ⟨gb208, _, none⟩) (by first | exact Nat.ne_of_lt (Nat.lt_of_lt_of_le (by have := World.block_lt_of_cell? _ _ hw205_1; first | rwa [add_block] at this | exact this) GW208.out) | (rw [add_block]; exact Nat.ne_of_lt (Nat.lt_of_lt_of_le (by have := World.block_lt_of_cell? _ _ hw205_1; first | rwa [add_block] at this | exact this) GW208.out)) | (show (Addr.add _ _).block ≠ _; rw [add_block]; exact Nat.ne_of_lt (Nat.lt_of_lt_of_le (by have := World.block_lt_of_cell? _ _ hw205_1; first | rwa [add_block] at this | exact this) GW208.out)) | (dsimp only; exact Nat.ne_of_lt (Nat.lt_of_lt_of_le (by have := World.block_lt_of_cell? _ _ hw205_1; first | rwa [add_block] at this | exact this) GW208.out))) _).trans (((cell_far (p := ⟨gb208, _, none⟩) (by first | exact Nat.ne_of_lt (Nat.lt_of_lt_of_le (by have := World.block_lt_of_cell? _ _ hw205_1; first | rwa [add_block] at this | exact this) GW208.out) | (rw [add_block]; exact Nat.ne_of_lt (Nat.lt_of_lt_of_le (by have := World.block_lt_of_cell? _ _ hw205_1; first | rwa [add_block] at this | exact this) GW208.out)) | (show (Addr.add _ _).block ≠ _; rw [add_block]; exact Nat.ne_of_lt (Nat.lt_of_lt_of_le (by have := World.block_lt_of_cell? _ _ hw205_1; first | rwa [add_block] at this | exact this) GW208.out)) | (dsimp only; exact Nat.ne_of_lt (Nat.lt_of_lt_of_le (by have := World.block_lt_of_cell? _ _ hw205_1; first | rwa [add_block] at this | exact this) GW208.out))) _).trans (((cell_far (p := ⟨gb208, _, none⟩) (by first | exact Nat.ne_of_lt (Nat.lt_of_lt_of_le (by have := World.block_lt_of_cell? _ _ hw205_1; first | rwa [add_block] at this | exact this) GW208.out) | (rw [add_block]; exact Nat.ne_of_lt (Nat.lt_of_lt_of_le (by have := World.block_lt_of_cell? _ _ hw205_1; first | rwa [add_block] at this | exact this) GW208.out)) | (show (Addr.add _ _).block ≠ _; rw [add_block]; exact Nat.ne_of_lt (Nat.lt_of_lt_of_le (by have := World.block_lt_of_cell? _ _ hw205_1; first | rwa [add_block] at this | exact this) GW208.out)) | (dsimp only; exact Nat.ne_of_lt (Nat.lt_of_lt_of_le (by have := World.block_lt_of_cell? _ _ hw205_1; first | rwa [add_block] at this | exact this) GW208.out))) _).trans (((cell_far (p := ⟨gb208, _, none⟩) (by first | exact Nat.ne_of_lt (Nat.lt_of_lt_of_le (by have := World.block_lt_of_cell? _ _ hw205_1; first | rwa [add_block] at this | exact this) GW208.out) | (rw [add_block]; exact Nat.ne_of_lt (Nat.lt_of_lt_of_le (by have := World.block_lt_of_cell? _ _ hw205_1; first | rwa [add_block] at this | exact this) GW208.out)) | (show (Addr.add _ _).block ≠ _; rw [add_block]; exact Nat.ne_of_lt (Nat.lt_of_lt_of_le (by have := World.block_lt_of_cell? _ _ hw205_1; first | rwa [add_block] at this | exact this) GW208.out)) | (dsimp only; exact Nat.ne_of_lt (Nat.lt_of_lt_of_le (by have := World.block_lt_of_cell? _ _ hw205_1; first | rwa [add_block] at this | exact this) GW208.out))) _).trans (hHeld.2.1)))))))))), ((cell_far (p := ⟨gb208, _, none⟩) (by first | exact Nat.ne_of_lt (Nat.lt_of_lt_of_le (by have := World.block_lt_of_cell? _ _ hw205_2; first | rwa [add_block] at this | exact this) GW208.out) | (rw [add_block]; exact Nat.ne_of_lt (Nat.lt_of_lt_of_le (by have := World.block_lt_of_cell? _ _ hw205_2; first | rwa [add_block] at this | exact this) GW208.out)) | (show (Addr.add _ _).block ≠ _; rw [add_block]; exact Nat.ne_of_lt (Nat.lt_of_lt_of_le (by have := World.block_lt_of_cell? _ _ hw205_2; first | rwa [add_block] at this | exact this) GW208.out)) | (dsimp only; exact Nat.ne_of_lt (Nat.lt_of_lt_of_le (by have := World.block_lt_of_cell? _ _ hw205_2; first | rwa [add_block] at this | exact this) GW208.out))) _).trans (((cell_far (p := ⟨gb208, _, none⟩) (by first | exact Nat.ne_of_lt (Nat.lt_of_lt_of_le (by have := World.block_lt_of_cell? _ _ hw205_2; first | rwa [add_block] at this | exact this) GW208.out) | (rw [add_block]; exact Nat.ne_of_lt (Nat.lt_of_lt_of_le (by have := World.block_lt_of_cell? _ _ hw205_2; first | rwa [add_block] at this | exact this) GW208.out)) | (show (Addr.add _ _).block ≠ _; rw [add_block]; exact Nat.ne_of_lt (Nat.lt_of_lt_of_le (by have := World.block_lt_of_cell? _ _ hw205_2; first | rwa [add_block] at this | exact this) GW208.out)) | (dsimp only; exact Nat.ne_of_lt (Nat.lt_of_lt_of_le (by have := World.block_lt_of_cell? _ _ hw205_2; first | rwa [add_block] at this | exact this) GW208.out))) _).trans (((cell_far (p := ⟨gb208, _, none⟩) (by first | exact Nat.ne_of_lt (Nat.lt_of_lt_of_le (by have := World.block_lt_of_cell? _ _ hw205_2; first | rwa [add_block] at this | exact this) GW208.out) | (rw [add_block]; exact Nat.ne_of_lt (Nat.lt_of_lt_of_le (by have := World.block_lt_of_cell? _ _ hw205_2; first | rwa [add_block] at this | exact this) GW208.out)) | (show (Addr.add _ _).block ≠ _; rw [add_block]; exact Nat.ne_of_lt (Nat.lt_of_lt_of_le (by have := World.block_lt_of_cell? _ _ hw205_2; first | rwa [add_block] at this | exact this) GW208.out)) | (dsimp only; exact Nat.ne_of_lt (Nat.lt_of_lt_of_le (by have := World.block_lt_of_cell? _ _ hw205_2; first | rwa [add_block] at this | exact this) GW208.out))) _).trans (((cell_far (p := ⟨gb208, _, none⟩) (by first | exact Nat.ne_of_lt (Nat.lt_of_lt_of_le (by have := World.block_lt_of_cell? _ _ hw205_2; first | rwa [add_block] at this | exact this) GW208.out) | (rw [add_block]; exact Nat.ne_of_lt (Nat.lt_of_lt_of_le (by have := World.block_lt_of_cell? _ _ hw205_2; first | rwa [add_block] at this | exact this) GW208.out)) | (show (Addr.add _ _).block ≠ _; rw [add_block]; exact Nat.ne_of_lt (Nat.lt_of_lt_of_le (by have := World.block_lt_of_cell? _ _ hw205_2; first | rwa [add_block] at this | exact this) GW208.out)) | (dsimp only; exact Nat.ne_of_lt (Nat.lt_of_lt_of_le (by have := World.block_lt_of_cell? _ _ hw205_2; first | rwa [add_block] at this | exact this) GW208.out))) _).trans (((cell_far (p := ⟨gb208, _, none⟩) (by first | exact Nat.ne_of_lt (Nat.lt_of_lt_of_le (by have := World.block_lt_of_cell? _ _ hw205_2; first | rwa [add_block] at this | exact this) GW208.out) | (rw [add_block]; exact Nat.ne_of_lt (Nat.lt_of_lt_of_le (by have := World.block_lt_of_cell? _ _ hw205_2; first | rwa [add_block] at this | exact this) GW208.out)) | (show (Addr.add _ _).block ≠ _; rw [add_block]; exact Nat.ne_of_lt (Nat.lt_of_lt_of_le (by have := World.block_lt_of_cell? _ _ hw205_2; first | rwa [add_block] at this | exact this) GW208.out)) | (dsimp only; exact Nat.ne_of_lt (Nat.lt_of_lt_of_le (by have := World.block_lt_of_cell? _ _ hw205_2; first | rwa [add_block] at this | exact this) GW208.out))) _).trans (hHeld.2.2.1)))))))))), ((cell_far (p := ⟨gb208, _, none⟩) (by first | exact Nat.ne_of_lt (Nat.lt_of_lt_of_le (by have := World.block_lt_of_cell? _ _ hw205_3; first | rwa [add_block] at this | exact this) GW208.out) | (rw [add_block]; exact Nat.ne_of_lt (Nat.lt_of_lt_of_le (by have := World.block_lt_of_cell? _ _ hw205_3; first | rwa [add_block] at this | exact this) GW208.out)) | (show (Addr.add _ _).block ≠ _; rw [add_block]; exact Nat.ne_of_lt (Nat.lt_of_lt_of_le (by have := World.block_lt_of_cell? _ _ hw205_3; first | rwa [add_block] at this | exact this) GW208.out)) | (dsimp only; exact Nat.ne_of_lt (Nat.lt_of_lt_of_le (by have := World.block_lt_of_cell? _ _ hw205_3; first | rwa [add_block] at this | exact this) GW208.out))) _).trans (((cell_far (p := ⟨gb208, _, none⟩) (by first | exact Nat.ne_of_lt (Nat.lt_of_lt_of_le (by have := World.block_lt_of_cell? _ _ hw205_3; first | rwa [add_block] at this | exact this) GW208.out) | (rw [add_block]; exact Nat.ne_of_lt (Nat.lt_of_lt_of_le (by have := World.block_lt_of_cell? _ _ hw205_3; first | rwa [add_block] at this | exact this) GW208.out)) | (show (Addr.add _ _).block ≠ _; rw [add_block]; exact Nat.ne_of_lt (Nat.lt_of_lt_of_le (by have := World.block_lt_of_cell? _ _ hw205_3; first | rwa [add_block] at this | exact this) GW208.out)) | (dsimp only; exact Nat.ne_of_lt (Nat.lt_of_lt_of_le (by have := World.block_lt_of_cell? _ _ hw205_3; first | rwa [add_block] at this | exact this) GW208.out))) _).trans (((cell_far (p := ⟨gb208, _, none⟩) (by first | exact Nat.ne_of_lt (Nat.lt_of_lt_of_le (by have := World.block_lt_of_cell? _ _ hw205_3; first | rwa [add_block] at this | exact this) GW208.out) | (rw [add_block]; exact Nat.ne_of_lt (Nat.lt_of_lt_of_le (by have := World.block_lt_of_cell? _ _ hw205_3; first | rwa [add_block] at this | exact this) GW208.out)) | (show (Addr.add _ _).block ≠ _; rw [add_block]; exact Nat.ne_of_lt (Nat.lt_of_lt_of_le (by have := World.block_lt_of_cell? _ _ hw205_3; first | rwa [add_block] at this | exact this) GW208.out)) | (dsimp only; exact Nat.ne_of_lt (Nat.lt_of_lt_of_le (by have := World.block_lt_of_cell? _ _ hw205_3; first | rwa [add_block] at this | exact this) GW208.out))) _).trans (((cell_far (p := ⟨gb208, _, none⟩) (by first | exact Nat.ne_of_lt (Nat.lt_of_lt_of_le (by have := World.block_lt_of_cell? _ _ hw205_3; first | rwa [add_block] at this | exact this) GW208.out) | (rw [add_block]; exact Nat.ne_of_lt (Nat.lt_of_lt_of_le (by have := World.block_lt_of_cell? _ _ hw205_3; first | rwa [add_block] at this | exact this) GW208.out)) | (show (Addr.add _ _).block ≠ _; rw [add_block]; exact Nat.ne_of_lt (Nat.lt_of_lt_of_le (by have := World.block_lt_of_cell? _ _ hw205_3; first | rwa [add_block] at this | exact this) GW208.out)) | (dsimp only; exact Nat.ne_of_lt (Nat.lt_of_lt_of_le (by have := World.block_lt_of_cell? _ _ hw205_3; first | rwa [add_block] at this | exact this) GW208.out))) _).trans (((cell_far (p := ⟨gb208, _, none⟩) (by first | exact Nat.ne_of_lt (Nat.lt_of_lt_of_le (by have := World.block_lt_of_cell? _ _ hw205_3; first | rwa [add_block] at this | exact this) GW208.out) | (rw [add_block]; exact Nat.ne_of_lt (Nat.lt_of_lt_of_le (by have := World.block_lt_of_cell? _ _ hw205_3; first | rwa [add_block] at this | exact this) GW208.out)) | (show (Addr.add _ _).block ≠ _; rw [add_block]; exact Nat.ne_of_lt (Nat.lt_of_lt_of_le (by have := World.block_lt_of_cell? _ _ hw205_3; first | rwa [add_block] at this | exact this) GW208.out)) | (dsimp only; exact Nat.ne_of_lt (Nat.lt_of_lt_of_le (by have := World.block_lt_of_cell? _ _ hw205_3; first | rwa [add_block] at this | exact this) GW208.out))) _).trans (hHeld.2.2.2.1)))))))))), ((cell_far (p := ⟨gb208, _, none⟩) (by first | exact Nat.ne_of_lt (Nat.lt_of_lt_of_le (by have := World.block_lt_of_cell? _ _ hw205_4; first | rwa [add_block] at this | exact this) GW208.out) | (rw [add_block]; exact Nat.ne_of_lt (Nat.lt_of_lt_of_le (by have := World.block_lt_of_cell? _ _ hw205_4; first | rwa [add_block] at this | exact this) GW208.out)) | (show (Addr.add _ _).block ≠ _; rw [add_block]; exact Nat.ne_of_lt (Nat.lt_of_lt_of_le (by have := World.block_lt_of_cell? _ _ hw205_4; first | rwa [add_block] at this | exact this) GW208.out)) | (dsimp only; exact Nat.ne_of_lt (Nat.lt_of_lt_of_le (by have := World.block_lt_of_cell? _ _ hw205_4; first | rwa [add_block] at this | exact this) GW208.out))) _).trans (((cell_far (p := ⟨gb208, _, none⟩) (by first | exact Nat.ne_of_lt (Nat.lt_of_lt_of_le (by have := World.block_lt_of_cell? _ _ hw205_4; first | rwa [add_block] at this | exact this) GW208.out) | (rw [add_block]; exact Nat.ne_of_lt (Nat.lt_of_lt_of_le (by have := World.block_lt_of_cell? _ _ hw205_4; first | rwa [add_block] at this | exact this) GW208.out)) | (show (Addr.add _ _).block ≠ _; rw [add_block]; exact Nat.ne_of_lt (Nat.lt_of_lt_of_le (by have := World.block_lt_of_cell? _ _ hw205_4; first | rwa [add_block] at this | exact this) GW208.out)) | (dsimp only; exact Nat.ne_of_lt (Nat.lt_of_lt_of_le (by have := World.block_lt_of_cell? _ _ hw205_4; first | rwa [add_block] at this | exact this) GW208.out))) _).trans (((cell_far (p := ⟨gb208, _, none⟩) (by first | exact Nat.ne_of_lt (Nat.lt_of_lt_of_le (by have := World.block_lt_of_cell? _ _ hw205_4; first | rwa [add_block] at this | exact this) GW208.out) | (rw [add_block]; exact Nat.ne_of_lt (Nat.lt_of_lt_of_le (by have := World.block_lt_of_cell? _ _ hw205_4; first | rwa [add_block] at this | exact this) GW208.out)) | (show (Addr.add _ _).block ≠ _; rw [add_block]; exact Nat.ne_of_lt (Nat.lt_of_lt_of_le (by have := World.block_lt_of_cell? _ _ hw205_4; first | rwa [add_block] at this | exact this) GW208.out)) | (dsimp only; exact Nat.ne_of_lt (Nat.lt_of_lt_of_le (by have := World.block_lt_of_cell? _ _ hw205_4; first | rwa [add_block] at this | exact this) GW208.out))) _).trans (((cell_far (p := ⟨gb208, _, none⟩) (by first | exact Nat.ne_of_lt (Nat.lt_of_lt_of_le (by have := World.block_lt_of_cell? _ _ hw205_4; first | rwa [add_block] at this | exact this) GW208.out) | (rw [add_block]; exact Nat.ne_of_lt (Nat.lt_of_lt_of_le (by have := World.block_lt_of_cell? _ _ hw205_4; first | rwa [add_block] at this | exact this) GW208.out)) | (show (Addr.add _ _).block ≠ _; rw [add_block]; exact Nat.ne_of_lt (Nat.lt_of_lt_of_le (by have := World.block_lt_of_cell? _ _ hw205_4; first | rwa [add_block] at this | exact this) GW208.out)) | (dsimp only; exact Nat.ne_of_lt (Nat.lt_of_lt_of_le (by have := World.block_lt_of_cell? _ _ hw205_4; first | rwa [add_block] at this | exact this) GW208.out))) _).trans (((cell_far (p := ⟨gb208, _, none⟩) (by first | exact Nat.ne_of_lt (Nat.lt_of_lt_of_le (by have := World.block_lt_of_cell? _ _ hw205_4; first | rwa [add_block] at this | exact this) GW208.out) | (rw [add_block]; exact Nat.ne_of_lt (Nat.lt_of_lt_of_le (by have := World.block_lt_of_cell? _ _ hw205_4; first | rwa [add_block] at this | exact this) GW208.out)) | (show (Addr.add _ _).block ≠ _; rw [add_block]; exact Nat.ne_of_lt (Nat.lt_of_lt_of_le (by have := World.block_lt_of_cell? _ _ hw205_4; first | rwa [add_block] at this | exact this) GW208.out)) | (dsimp only; exact Nat.ne_of_lt (Nat.lt_of_lt_of_le (by have := World.block_lt_of_cell? _ _ hw205_4; first | rwa [add_block] at this | exact this) GW208.out))) _).trans (hHeld.2.2.2.2.1)))))))))), ((cell_far (p := ⟨gb208, _, none⟩) (by first | exact Nat.ne_of_lt (Nat.lt_of_lt_of_le (by have := World.block_lt_of_cell? _ _ hw206_0; first | rwa [add_block] at this | exact this) GW208.out) | (rw [add_block]; exact Nat.ne_of_lt (Nat.lt_of_lt_of_le (by have := World.block_lt_of_cell? _ _ hw206_0; first | rwa [add_block] at this | exact this) GW208.out)) | (show (Addr.add _ _).block ≠ _; rw [add_block]; exact Nat.ne_of_lt (Nat.lt_of_lt_of_le (by have := World.block_lt_of_cell? _ _ hw206_0; first | rwa [add_block] at this | exact this) GW208.out)) | (dsimp only; exact Nat.ne_of_lt (Nat.lt_of_lt_of_le (by have := World.block_lt_of_cell? _ _ hw206_0; first | rwa [add_block] at this | exact this) GW208.out))) _).trans (((cell_far (p := ⟨gb208, _, none⟩) (by first | exact Nat.ne_of_lt (Nat.lt_of_lt_of_le (by have := World.block_lt_of_cell? _ _ hw206_0; first | rwa [add_block] at this | exact this) GW208.out) | (rw [add_block]; exact Nat.ne_of_lt (Nat.lt_of_lt_of_le (by have := World.block_lt_of_cell? _ _ hw206_0; first | rwa [add_block] at this | exact this) GW208.out)) | (show (Addr.add _ _).block ≠ _; rw [add_block]; exact Nat.ne_of_lt (Nat.lt_of_lt_of_le (by have := World.block_lt_of_cell? _ _ hw206_0; first | rwa [add_block] at this | exact this) GW208.out)) | (dsimp only; exact Nat.ne_of_lt (Nat.lt_of_lt_of_le (by have := World.block_lt_of_cell? _ _ hw206_0; first | rwa [add_block] at this | exact this) GW208.out))) _).trans (((cell_far (p := ⟨gb208, _, none⟩) (by first | exact Nat.ne_of_lt (Nat.lt_of_lt_of_le (by have := World.block_lt_of_cell? _ _ hw206_0; first | rwa [add_block] at this | exact this) GW208.out) | (rw [add_block]; exact Nat.ne_of_lt (Nat.lt_of_lt_of_le (by have := World.block_lt_of_cell? _ _ hw206_0; first | rwa [add_block] at this | exact this) GW208.out)) | (show (Addr.add _ _).block ≠ _; rw [add_block]; exact Nat.ne_of_lt (Nat.lt_of_lt_of_le (by have := World.block_lt_of_cell? _ _ hw206_0; first | rwa [add_block] at this | exact this) GW208.out)) | (dsimp only; exact Nat.ne_of_lt (Nat.lt_of_lt_of_le (by have := World.block_lt_of_cell? _ _ hw206_0; first | rwa [add_block] at this | exact this) GW208.out))) _).trans (((cell_far (p := ⟨gb208, _, none⟩) (by first | exact Nat.ne_of_lt (Nat.lt_of_lt_of_le (by have := World.block_lt_of_cell? _ _ hw206_0; first | rwa [add_block] at this | exact this) GW208.out) | (rw [add_block]; exact Nat.ne_of_lt (Nat.lt_of_lt_of_le (by have := World.block_lt_of_cell? _ _ hw206_0; first | rwa [add_block] at this | exact this) GW208.out)) | (show (Addr.add _ _).block ≠ _; rw [add_block]; exact Nat.ne_of_lt (Nat.lt_of_lt_of_le (by have := World.block_lt_of_cell? _ _ hw206_0; first | rwa [add_block] at this | exact this) GW208.out)) | (dsimp only; exact Nat.ne_of_lt (Nat.lt_of_lt_of_le (by have := World.block_lt_of_cell? _ _ hw206_0; first | rwa [add_block] at this | exact this) GW208.out))) _).trans (((cell_far (p := ⟨gb208, _, none⟩) (by first | exact Nat.ne_of_lt (Nat.lt_of_lt_of_le (by have := World.block_lt_of_cell? _ _ hw206_0; first | rwa [add_block] at this | exact this) GW208.out) | (rw [add_block]; exact Nat.ne_of_lt (Nat.lt_of_lt_of_le (by have := World.block_lt_of_cell? _ _ hw206_0; first | rwa [add_block] at this | exact this) GW208.out)) | (show (Addr.add _ _).block ≠ _; rw [add_block]; exact Nat.ne_of_lt (Nat.lt_of_lt_of_le (by have := World.block_lt_of_cell? _ _ hw206_0; first | rwa [add_block] at this | exact this) GW208.out)) | (dsimp only; exact Nat.ne_of_lt (Nat.lt_of_lt_of_le (by have := World.block_lt_of_cell? _ _ hw206_0; first | rwa [add_block] at this | exact this) GW208.out))) _).trans (hHeld.2.2.2.2.2.1)))))))))), ((cell_far (p := ⟨gb208, _, none⟩) (by first | exact Nat.ne_of_lt (Nat.lt_of_lt_of_le (by have := World.block_lt_of_cell? _ _ hw206_1; first | rwa [add_block] at this | exact this) GW208.out) | (rw [add_block]; exact Nat.ne_of_lt (Nat.lt_of_lt_of_le (by have := World.block_lt_of_cell? _ _ hw206_1; first | rwa [add_block] at this | exact this) GW208.out)) | (show (Addr.add _ _).block ≠ _; rw [add_block]; exact Nat.ne_of_lt (Nat.lt_of_lt_of_le (by have := World.block_lt_of_cell? _ _ hw206_1; first | rwa [add_block] at this | exact this) GW208.out)) | (dsimp only; exact Nat.ne_of_lt (Nat.lt_of_lt_of_le (by have := World.block_lt_of_cell? _ _ hw206_1; first | rwa [add_block] at this | exact this) GW208.out))) _).trans (((cell_far (p := ⟨gb208, _, none⟩) (by first | exact Nat.ne_of_lt (Nat.lt_of_lt_of_le (by have := World.block_lt_of_cell? _ _ hw206_1; first | rwa [add_block] at this | exact this) GW208.out) | (rw [add_block]; exact Nat.ne_of_lt (Nat.lt_of_lt_of_le (by have := World.block_lt_of_cell? _ _ hw206_1; first | rwa [add_block] at this | exact this) GW208.out)) | (show (Addr.add _ _).block ≠ _; rw [add_block]; exact Nat.ne_of_lt (Nat.lt_of_lt_of_le (by have := World.block_lt_of_cell? _ _ hw206_1; first | rwa [add_block] at this | exact this) GW208.out)) | (dsimp only; exact Nat.ne_of_lt (Nat.lt_of_lt_of_le (by have := World.block_lt_of_cell? _ _ hw206_1; first | rwa [add_block] at this | exact this) GW208.out))) _).trans (((cell_far (p := ⟨gb208, _, none⟩) (by first | exact Nat.ne_of_lt (Nat.lt_of_lt_of_le (by have := World.block_lt_of_cell? _ _ hw206_1; first | rwa [add_block] at this | exact this) GW208.out) | (rw [add_block]; exact Nat.ne_of_lt (Nat.lt_of_lt_of_le (by have := World.block_lt_of_cell? _ _ hw206_1; first | rwa [add_block] at this | exact this) GW208.out)) | (show (Addr.add _ _).block ≠ _; rw [add_block]; exact Nat.ne_of_lt (Nat.lt_of_lt_of_le (by have := World.block_lt_of_cell? _ _ hw206_1; first | rwa [add_block] at this | exact this) GW208.out)) | (dsimp only; exact Nat.ne_of_lt (Nat.lt_of_lt_of_le (by have := World.block_lt_of_cell? _ _ hw206_1; first | rwa [add_block] at this | exact this) GW208.out))) _).trans (((cell_far (p := ⟨gb208, _, none⟩) (by first | exact Nat.ne_of_lt (Nat.lt_of_lt_of_le (by have := World.block_lt_of_cell? _ _ hw206_1; first | rwa [add_block] at this | exact this) GW208.out) | (rw [add_block]; exact Nat.ne_of_lt (Nat.lt_of_lt_of_le (by have := World.block_lt_of_cell? _ _ hw206_1; first | rwa [add_block] at this | exact this) GW208.out)) | (show (Addr.add _ _).block ≠ _; rw [add_block]; exact Nat.ne_of_lt (Nat.lt_of_lt_of_le (by have := World.block_lt_of_cell? _ _ hw206_1; first | rwa [add_block] at this | exact this) GW208.out)) | (dsimp only; exact Nat.ne_of_lt (Nat.lt_of_lt_of_le (by have := World.block_lt_of_cell? _ _ hw206_1; first | rwa [add_block] at this | exact this) GW208.out))) _).trans (((cell_far (p := ⟨gb208, _, none⟩) (by first | exact Nat.ne_of_lt (Nat.lt_of_lt_of_le (by have := World.block_lt_of_cell? _ _ hw206_1; first | rwa [add_block] at this | exact this) GW208.out) | (rw [add_block]; exact Nat.ne_of_lt (Nat.lt_of_lt_of_le (by have := World.block_lt_of_cell? _ _ hw206_1; first | rwa [add_block] at this | exact this) GW208.out)) | (show (Addr.add _ _).block ≠ _; rw [add_block]; exact Nat.ne_of_lt (Nat.lt_of_lt_of_le (by have := World.block_lt_of_cell? _ _ hw206_1; first | rwa [add_block] at this | exact this) GW208.out)) | (dsimp only; exact Nat.ne_of_lt (Nat.lt_of_lt_of_le (by have := World.block_lt_of_cell? _ _ hw206_1; first | rwa [add_block] at this | exact this) GW208.out))) _).trans (hHeld.2.2.2.2.2.2.1)))))))))), ((cell_far (p := ⟨gb208, _, none⟩) (by first | exact Nat.ne_of_lt (Nat.lt_of_lt_of_le (by have := World.block_lt_of_cell? _ _ hw206_2; first | rwa [add_block] at this | exact this) GW208.out) | (rw [add_block]; exact Nat.ne_of_lt (Nat.lt_of_lt_of_le (by have := World.block_lt_of_cell? _ _ hw206_2; first | rwa [add_block] at this | exact this) GW208.out)) | (show (Addr.add _ _).block ≠ _; rw [add_block]; exact Nat.ne_of_lt (Nat.lt_of_lt_of_le (by have := World.block_lt_of_cell? _ _ hw206_2; first | rwa [add_block] at this | exact this) GW208.out)) | (dsimp only; exact Nat.ne_of_lt (Nat.lt_of_lt_of_le (by have := World.block_lt_of_cell? _ _ hw206_2; first | rwa [add_block] at this | exact this) GW208.out))) _).trans (((cell_far (p := ⟨gb208, _, none⟩) (by first | exact Nat.ne_of_lt (Nat.lt_of_lt_of_le (by have := World.block_lt_of_cell? _ _ hw206_2; first | rwa [add_block] at this | exact this) GW208.out) | (rw [add_block]; exact Nat.ne_of_lt (Nat.lt_of_lt_of_le (by have := World.block_lt_of_cell? _ _ hw206_2; first | rwa [add_block] at this | exact this) GW208.out)) | (show (Addr.add _ _).block ≠ _; rw [add_block]; exact Nat.ne_of_lt (Nat.lt_of_lt_of_le (by have := World.block_lt_of_cell? _ _ hw206_2; first | rwa [add_block] at this | exact this) GW208.out)) | (dsimp only; exact Nat.ne_of_lt (Nat.lt_of_lt_of_le (by have := World.block_lt_of_cell? _ _ hw206_2; first | rwa [add_block] at this | exact this) GW208.out))) _).trans (((cell_far (p := ⟨gb208, _, none⟩) (by first | exact Nat.ne_of_lt (Nat.lt_of_lt_of_le (by have := World.block_lt_of_cell? _ _ hw206_2; first | rwa [add_block] at this | exact this) GW208.out) | (rw [add_block]; exact Nat.ne_of_lt (Nat.lt_of_lt_of_le (by have := World.block_lt_of_cell? _ _ hw206_2; first | rwa [add_block] at this | exact this) GW208.out)) | (show (Addr.add _ _).block ≠ _; rw [add_block]; exact Nat.ne_of_lt (Nat.lt_of_lt_of_le (by have := World.block_lt_of_cell? _ _ hw206_2; first | rwa [add_block] at this | exact this) GW208.out)) | (dsimp only; exact Nat.ne_of_lt (Nat.lt_of_lt_of_le (by have := World.block_lt_of_cell? _ _ hw206_2; first | rwa [add_block] at this | exact this) GW208.out))) _).trans (((cell_far (p := ⟨gb208, _, none⟩) (by first | exact Nat.ne_of_lt (Nat.lt_of_lt_of_le (by have := World.block_lt_of_cell? _ _ hw206_2; first | rwa [add_block] at this | exact this) GW208.out) | (rw [add_block]; exact Nat.ne_of_lt (Nat.lt_of_lt_of_le (by have := World.block_lt_of_cell? _ _ hw206_2; first | rwa [add_block] at this | exact this) GW208.out)) | (show (Addr.add _ _).block ≠ _; rw [add_block]; exact Nat.ne_of_lt (Nat.lt_of_lt_of_le (by have := World.block_lt_of_cell? _ _ hw206_2; first | rwa [add_block] at this | exact this) GW208.out)) | (dsimp only; exact Nat.ne_of_lt (Nat.lt_of_lt_of_le (by have := World.block_lt_of_cell? _ _ hw206_2; first | rwa [add_block] at this | exact this) GW208.out))) _).trans (((cell_far (p := ⟨gb208, _, none⟩) (by first | exact Nat.ne_of_lt (Nat.lt_of_lt_of_le (by have := World.block_lt_of_cell? _ _ hw206_2; first | rwa [add_block] at this | exact this) GW208.out) | (rw [add_block]; exact Nat.ne_of_lt (Nat.lt_of_lt_of_le (by have := World.block_lt_of_cell? _ _ hw206_2; first | rwa [add_block] at this | exact this) GW208.out)) | (show (Addr.add _ _).block ≠ _; rw [add_block]; exact Nat.ne_of_lt (Nat.lt_of_lt_of_le (by have := World.block_lt_of_cell? _ _ hw206_2; first | rwa [add_block] at this | exact this) GW208.out)) | (dsimp only; exact Nat.ne_of_lt (Nat.lt_of_lt_of_le (by have := World.block_lt_of_cell? _ _ hw206_2; first | rwa [add_block] at this | exact this) GW208.out))) _).trans (hHeld.2.2.2.2.2.2.2.1)))))))))), ((cell_far (p := ⟨gb208, _, none⟩) (by first | exact Nat.ne_of_lt (Nat.lt_of_lt_of_le (by have := World.block_lt_of_cell? _ _ hw206_3; first | rwa [add_block] at this | exact this) GW208.out) | (rw [add_block]; exact Nat.ne_of_lt (Nat.lt_of_lt_of_le (by have := World.block_lt_of_cell? _ _ hw206_3; first | rwa [add_block] at this | exact this) GW208.out)) | (show (Addr.add _ _).block ≠ _; rw [add_block]; exact Nat.ne_of_lt (Nat.lt_of_lt_of_le (by have := World.block_lt_of_cell? _ _ hw206_3; first | rwa [add_block] at this | exact this) GW208.out)) | (dsimp only; exact Nat.ne_of_lt (Nat.lt_of_lt_of_le (by have := World.block_lt_of_cell? _ _ hw206_3; first | rwa [add_block] at this | exact this) GW208.out))) _).trans (((cell_far (p := ⟨gb208, _, none⟩) (by first | exact Nat.ne_of_lt (Nat.lt_of_lt_of_le (by have := World.block_lt_of_cell? _ _ hw206_3; first | rwa [add_block] at this | exact this) GW208.out) | (rw [add_block]; exact Nat.ne_of_lt (Nat.lt_of_lt_of_le (by have := World.block_lt_of_cell? _ _ hw206_3; first | rwa [add_block] at this | exact this) GW208.out)) | (show (Addr.add _ _).block ≠ _; rw [add_block]; exact Nat.ne_of_lt (Nat.lt_of_lt_of_le (by have := World.block_lt_of_cell? _ _ hw206_3; first | rwa [add_block] at this | exact this) GW208.out)) | (dsimp only; exact Nat.ne_of_lt (Nat.lt_of_lt_of_le (by have := World.block_lt_of_cell? _ _ hw206_3; first | rwa [add_block] at this | exact this) GW208.out))) _).trans (((cell_far (p := ⟨gb208, _, none⟩) (by first | exact Nat.ne_of_lt (Nat.lt_of_lt_of_le (by have := World.block_lt_of_cell? _ _ hw206_3; first | rwa [add_block] at this | exact this) GW208.out) | (rw [add_block]; exact Nat.ne_of_lt (Nat.lt_of_lt_of_le (by have := World.block_lt_of_cell? _ _ hw206_3; first | rwa [add_block] at this | exact this) GW208.out)) | (show (Addr.add _ _).block ≠ _; rw [add_block]; exact Nat.ne_of_lt (Nat.lt_of_lt_of_le (by have := World.block_lt_of_cell? _ _ hw206_3; first | rwa [add_block] at this | exact this) GW208.out)) | (dsimp only; exact Nat.ne_of_lt (Nat.lt_of_lt_of_le (by have := World.block_lt_of_cell? _ _ hw206_3; first | rwa [add_block] at this | exact this) GW208.out))) _).trans (((cell_far (p := ⟨gb208, _, none⟩) (by first | exact Nat.ne_of_lt (Nat.lt_of_lt_of_le (by have := World.block_lt_of_cell? _ _ hw206_3; first | rwa [add_block] at this | exact this) GW208.out) | (rw [add_block]; exact Nat.ne_of_lt (Nat.lt_of_lt_of_le (by have := World.block_lt_of_cell? _ _ hw206_3; first | rwa [add_block] at this | exact this) GW208.out)) | (show (Addr.add _ _).block ≠ _; rw [add_block]; exact Nat.ne_of_lt (Nat.lt_of_lt_of_le (by have := World.block_lt_of_cell? _ _ hw206_3; first | rwa [add_block] at this | exact this) GW208.out)) | (dsimp only; exact Nat.ne_of_lt (Nat.lt_of_lt_of_le (by have := World.block_lt_of_cell? _ _ hw206_3; first | rwa [add_block] at this | exact this) GW208.out))) _).trans (((cell_far (p := ⟨gb208, _, none⟩) (by first | exact Nat.ne_of_lt (Nat.lt_of_lt_of_le (by have := World.block_lt_of_cell? _ _ hw206_3; first | rwa [add_block] at this | exact this) GW208.out) | (rw [add_block]; exact Nat.ne_of_lt (Nat.lt_of_lt_of_le (by have := World.block_lt_of_cell? _ _ hw206_3; first | rwa [add_block] at this | exact this) GW208.out)) | (show (Addr.add _ _).block ≠ _; rw [add_block]; exact Nat.ne_of_lt (Nat.lt_of_lt_of_le (by have := World.block_lt_of_cell? _ _ hw206_3; first | rwa [add_block] at this | exact this) GW208.out)) | (dsimp only; exact Nat.ne_of_lt (Nat.lt_of_lt_of_le (by have := World.block_lt_of_cell? _ _ hw206_3; first | rwa [add_block] at this | exact this) GW208.out))) _).trans (hHeld.2.2.2.2.2.2.2.2.1)))))))))), ((cell_far (p := ⟨gb208, _, none⟩) (by first | exact Nat.ne_of_lt (Nat.lt_of_lt_of_le (by have := World.block_lt_of_cell? _ _ hw206_4; first | rwa [add_block] at this | exact this) GW208.out) | (rw [add_block]; exact Nat.ne_of_lt (Nat.lt_of_lt_of_le (by have := World.block_lt_of_cell? _ _ hw206_4; first | rwa [add_block] at this | exact this) GW208.out)) | (show (Addr.add _ _).block ≠ _; rw [add_block]; exact Nat.ne_of_lt (Nat.lt_of_lt_of_le (by have := World.block_lt_of_cell? _ _ hw206_4; first | rwa [add_block] at this | exact this) GW208.out)) | (dsimp only; exact Nat.ne_of_lt (Nat.lt_of_lt_of_le (by have := World.block_lt_of_cell? _ _ hw206_4; first | rwa [add_block] at this | exact this) GW208.out))) _).trans (((cell_far (p := ⟨gb208, _, none⟩) (by first | exact Nat.ne_of_lt (Nat.lt_of_lt_of_le (by have := World.block_lt_of_cell? _ _ hw206_4; first | rwa [add_block] at this | exact this) GW208.out) | (rw [add_block]; exact Nat.ne_of_lt (Nat.lt_of_lt_of_le (by have := World.block_lt_of_cell? _ _ hw206_4; first | rwa [add_block] at this | exact this) GW208.out)) | (show (Addr.add _ _).block ≠ _; rw [add_block]; exact Nat.ne_of_lt (Nat.lt_of_lt_of_le (by have := World.block_lt_of_cell? _ _ hw206_4; first | rwa [add_block] at this | exact this) GW208.out)) | (dsimp only; exact Nat.ne_of_lt (Nat.lt_of_lt_of_le (by have := World.block_lt_of_cell? _ _ hw206_4; first | rwa [add_block] at this | exact this) GW208.out))) _).trans (((cell_far (p := ⟨gb208, _, none⟩) (by first | exact Nat.ne_of_lt (Nat.lt_of_lt_of_le (by have := World.block_lt_of_cell? _ _ hw206_4; first | rwa [add_block] at this | exact this) GW208.out) | (rw [add_block]; exact Nat.ne_of_lt (Nat.lt_of_lt_of_le (by have := World.block_lt_of_cell? _ _ hw206_4; first | rwa [add_block] at this | exact this) GW208.out)) | (show (Addr.add _ _).block ≠ _; rw [add_block]; exact Nat.ne_of_lt (Nat.lt_of_lt_of_le (by have := World.block_lt_of_cell? _ _ hw206_4; first | rwa [add_block] at this | exact this) GW208.out)) | (dsimp only; exact Nat.ne_of_lt (Nat.lt_of_lt_of_le (by have := World.block_lt_of_cell? _ _ hw206_4; first | rwa [add_block] at this | exact this) GW208.out))) _).trans (((cell_far (p := ⟨gb208, _, none⟩) (by first | exact Nat.ne_of_lt (Nat.lt_of_lt_of_le (by have := World.block_lt_of_cell? _ _ hw206_4; first | rwa [add_block] at this | exact this) GW208.out) | (rw [add_block]; exact Nat.ne_of_lt (Nat.lt_of_lt_of_le (by have := World.block_lt_of_cell? _ _ hw206_4; first | rwa [add_block] at this | exact this) GW208.out)) | (show (Addr.add _ _).block ≠ _; rw [add_block]; exact Nat.ne_of_lt (Nat.lt_of_lt_of_le (by have := World.block_lt_of_cell? _ _ hw206_4; first | rwa [add_block] at this | exact this) GW208.out)) | (dsimp only; exact Nat.ne_of_lt (Nat.lt_of_lt_of_le (by have := World.block_lt_of_cell? _ _ hw206_4; first | rwa [add_block] at this | exact this) GW208.out))) _).trans (((cell_far (p := ⟨gb208, _, none⟩) (by first | exact Nat.ne_of_lt (Nat.lt_of_lt_of_le (by have := World.block_lt_of_cell? _ _ hw206_4; first | rwa [add_block] at this | exact this) GW208.out) | (rw [add_block]; exact Nat.ne_of_lt (Nat.lt_of_lt_of_le (by have := World.block_lt_of_cell? _ _ hw206_4; first | rwa [add_block] at this | exact this) GW208.out)) | (show (Addr.add _ _).block ≠ _; rw [add_block]; exact Nat.ne_of_lt (Nat.lt_of_lt_of_le (by have := World.block_lt_of_cell? _ _ hw206_4; first | rwa [add_block] at this | exact this) GW208.out)) | (dsimp only; exact Nat.ne_of_lt (Nat.lt_of_lt_of_le (by have := World.block_lt_of_cell? _ _ hw206_4; first | rwa [add_block] at this | exact this) GW208.out))) _).trans (hHeld.2.2.2.2.2.2.2.2.2))))))))))⟩ (fun hHeld => ?_)
              clear hK K
              refine done_ (done_of HT_.out (by kernel_rfl)) ?_
              go_upto_region 7 with (fail)
              go_cut [65] (fun v65 wc => ∃ (kq : Nat) (x65_6 : Bool), v65 = .bool x65_6 ∧ Aside0 (lunetteref20_Same.j1 kq l0 l1 x5_1 x65_6 ((rd_T29 l0 x5_1).f0) ((rd_T29 l0 x5_1).f1) ((rd_T29 l0 x5_1).f2) ((rd_T29 l0 x5_1).f3) ((rd_T29 l0 x5_1).f4) ((rd_T29 l1 x5_1).f0) ((rd_T29 l1 x5_1).f1) ((rd_T29 l1 x5_1).f2) ((rd_T29 l1 x5_1).f3) ((rd_T29 l1 x5_1).f4) = some r) ∧ Aside0 (kq ≤ k1) ∧ Aside0 (wc.heap[gb207]? = some (.cells #[.string ((rd_T29 l0 x5_1).f0), (.slice A205_1 ((rd_T29 l0 x5_1).f1).length c205_1), (.slice A205_2 ((rd_T29 l0 x5_1).f2).length c205_2), .string ((rd_T29 l0 x5_1).f3), .string ((rd_T29 l0 x5_1).f4)] 29 (0, 0))) ∧ Aside0 (wc.heap[gb208]? = some (.cells #[.string ((rd_T29 l1 x5_1).f0), (.slice A206_1 ((rd_T29 l1 x5_1).f1).length c206_1), (.slice A206_2 ((rd_T29 l1 x5_1).f2).length c206_2), .string ((rd_T29 l1 x5_1).f3), .string ((rd_T29 l1 x5_1).f4)] 29 (0, 0))) ∧ Aside0 (Below w.heap.size w wc))
              case first =>
                have H := HC7.out
                clear HC7
                by_cases c22 : ((rd_T29 l0 x5_1).f0).toList = ((rd_T29 l1 x5_1).f0).toList
                · rw [if_pos c22] at H
                  have c22b0 : (((rd_T29 l0 x5_1).f0).toList == ((rd_T29 l1 x5_1).f0).toList) = true := beq_iff_eq.mpr c22
                  have c22b1 : (((rd_T29 l0 x5_1).f0).toList != ((rd_T29 l1 x5_1).f0).toList) = false := bne_eq_false_iff_eq.mpr c22
                  clear c22
                  (first | rw [c22b0] | (simp only [i64_w, i32_w]; rw [c22b0]) | skip)
                  by_cases c23 : ((rd_T29 l0 x5_1).f3).toList = ((rd_T29 l1 x5_1).f3).toList
                  · rw [if_pos c23] at H
                    have c23b0 : (((rd_T29 l0 x5_1).f3).toList == ((rd_T29 l1 x5_1).f3).toList) = true := beq_iff_eq.mpr c23
                    have c23b1 : (((rd_T29 l0 x5_1).f3).toList != ((rd_T29 l1 x5_1).f3).toList) = false := bne_eq_false_iff_eq.mpr c23
                    clear c23
                    by_cases c24 : ((rd_T29 l0 x5_1).f4).toList = ((rd_T29 l1 x5_1).f4).toList
                    · rw [if_pos c24] at H
                      have c24b0 : (((rd_T29 l0 x5_1).f4).toList == ((rd_T29 l1 x5_1).f4).toList) = true := beq_iff_eq.mpr c24
                      have c24b1 : (((rd_T29 l0 x5_1).f4).toList != ((rd_T29 l1 x5_1).f4).toList) = false := bne_eq_false_iff_eq.mpr c24
                      clear c24
                      by_cases c25 : (((rd_T29 l0 x5_1).f1).length : Int) = (((rd_T29 l1 x5_1).f1).length : Int)
                      · rw [if_pos c25] at H
                        have c25b0 : ((((rd_T29 l0 x5_1).f1).length : Int) == (((rd_T29 l1 x5_1).f1).length : Int)) = true := beq_iff_eq.mpr c25
                        have c25b1 : ((((rd_T29 l0 x5_1).f1).length : Int) != (((rd_T29 l1 x5_1).f1).length : Int)) = false := bne_eq_false_iff_eq.mpr c25
                        have c25b2 : (((rd_T29 l0 x5_1).f1).length == ((rd_T29 l1 x5_1).f1).length) = true := by first | simpa using c25 | (simp at c25 ⊢; omega)
                        clear c25
                        have H' := Aside0.mk H
                        clear H
                        have hnb26 := NB207_208.out
                        have hnc26 := NB208_207.out
                        have hcz27_0 : w11.cell? ⟨gb207, 0, none⟩ = some (.string (⟨#[]⟩ : ByteArray)) := (blk_cell BK207.out 0).trans rfl
                        have hcz27_1 : w11.cell? ⟨gb207, 1, none⟩ = some (.slice none 0 0) := (blk_cell BK207.out 1).trans rfl
                        have hcz27_2 : w11.cell? ⟨gb207, 2, none⟩ = some (.slice none 0 0) := (blk_cell BK207.out 2).trans rfl
                        have hcz27_3 : w11.cell? ⟨gb207, 3, none⟩ = some (.string (⟨#[]⟩ : ByteArray)) := (blk_cell BK207.out 3).trans rfl
                        have hcz27_4 : w11.cell? ⟨gb207, 4, none⟩ = some (.string (⟨#[]⟩ : ByteArray)) := (blk_cell BK207.out 4).trans rfl
                        have hfz27_0 := blk_frozen BK207.out 0
                        have hfz27_1 := blk_frozen BK207.out 1
                        have hfz27_2 := blk_frozen BK207.out 2
                        have hfz27_3 := blk_frozen BK207.out 3
                        have hfz27_4 := blk_frozen BK207.out 4
                        have hcz28_0 : w11.cell? ⟨gb208, 0, none⟩ = some (.string (⟨#[]⟩ : ByteArray)) := (blk_cell BK208.out 0).trans rfl
                        have hcz28_1 : w11.cell? ⟨gb208, 1, none⟩ = some (.slice none 0 0) := (blk_cell BK208.out 1).trans rfl
                        have hcz28_2 : w11.cell? ⟨gb208, 2, none⟩ = some (.slice none 0 0) := (blk_cell BK208.out 2).trans rfl
                        have hcz28_3 : w11.cell? ⟨gb208, 3, none⟩ = some (.string (⟨#[]⟩ : ByteArray)) := (blk_cell BK208.out 3).trans rfl
                        have hcz28_4 : w11.cell? ⟨gb208, 4, none⟩ = some (.string (⟨#[]⟩ : ByteArray)) := (blk_cell BK208.out 4).trans rfl
                        have hfz28_0 := blk_frozen BK208.out 0
                        have hfz28_1 := blk_frozen BK208.out 1
                        have hfz28_2 := blk_frozen BK208.out 2
                        have hfz28_3 := blk_frozen BK208.out 3
                        have hfz28_4 := blk_frozen BK208.out 4
                        go_wp2
                        go_meet
                        case rel => exact ⟨_, (((((rd_T29 l0 x5_1).f2).length : Int) != (((rd_T29 l1 x5_1).f2).length : Int))), (by first | rfl | (simp; done) | (simp [*]; done)), H', ⟨by have := HK1.out; first | omega | exact Nat.le_refl _⟩, ⟨by (with_reducible repeat (first | refine blk_drewN ?_ _ | refine blk_drew ?_ | refine blk_alloc ?_ _)); refine blk_far ?_ NB207_208.out _; (with_reducible repeat (first | refine blk_drewN ?_ _ | refine blk_drew ?_ | refine blk_alloc ?_ _)); refine blk_far ?_ NB207_208.out _; (with_reducible repeat (first | refine blk_drewN ?_ _ | refine blk_drew ?_ | refine blk_alloc ?_ _)); refine blk_far ?_ NB207_208.out _; (with_reducible repeat (first | refine blk_drewN ?_ _ | refine blk_drew ?_ | refine blk_alloc ?_ _)); refine blk_far ?_ NB207_208.out _; (with_reducible repeat (first | refine blk_drewN ?_ _ | refine blk_drew ?_ | refine blk_alloc ?_ _)); refine blk_far ?_ NB207_208.out _; (with_reducible repeat (first | refine blk_drewN ?_ _ | refine blk_drew ?_ | refine blk_alloc ?_ _)); refine blk_put (cs := #[.string ((rd_T29 l0 x5_1).f0), .slice A205_1 ((rd_T29 l0 x5_1).f1).length c205_1, .slice A205_2 ((rd_T29 l0 x5_1).f2).length c205_2, .string ((rd_T29 l0 x5_1).f3), .string (⟨#[]⟩ : ByteArray)]) ?_ 4 _ rfl; (with_reducible repeat (first | refine blk_drewN ?_ _ | refine blk_drew ?_ | refine blk_alloc ?_ _)); refine blk_put (cs := #[.string ((rd_T29 l0 x5_1).f0), .slice A205_1 ((rd_T29 l0 x5_1).f1).length c205_1, .slice A205_2 ((rd_T29 l0 x5_1).f2).length c205_2, .string (⟨#[]⟩ : ByteArray), .string (⟨#[]⟩ : ByteArray)]) ?_ 3 _ rfl; (with_reducible repeat (first | refine blk_drewN ?_ _ | refine blk_drew ?_ | refine blk_alloc ?_ _)); refine blk_put (cs := #[.string ((rd_T29 l0 x5_1).f0), .slice A205_1 ((rd_T29 l0 x5_1).f1).length c205_1, .slice none 0 0, .string (⟨#[]⟩ : ByteArray), .string (⟨#[]⟩ : ByteArray)]) ?_ 2 _ rfl; (with_reducible repeat (first | refine blk_drewN ?_ _ | refine blk_drew ?_ | refine blk_alloc ?_ _)); refine blk_put (cs := #[.string ((rd_T29 l0 x5_1).f0), .slice none 0 0, .slice none 0 0, .string (⟨#[]⟩ : ByteArray), .string (⟨#[]⟩ : ByteArray)]) ?_ 1 _ rfl; (with_reducible repeat (first | refine blk_drewN ?_ _ | refine blk_drew ?_ | refine blk_alloc ?_ _)); refine blk_put (cs := #[.string (⟨#[]⟩ : ByteArray), .slice none 0 0, .slice none 0 0, .string (⟨#[]⟩ : ByteArray), .string (⟨#[]⟩ : ByteArray)]) ?_ 0 _ rfl; (with_reducible repeat (first | refine blk_drewN ?_ _ | refine blk_drew ?_ | refine blk_alloc ?_ _)); exact BK207.out⟩, ⟨by (with_reducible repeat (first | refine blk_drewN ?_ _ | refine blk_drew ?_ | refine blk_alloc ?_ _)); refine blk_put (cs := #[.string ((rd_T29 l1 x5_1).f0), .slice A206_1 ((rd_T29 l1 x5_1).f1).length c206_1, .slice A206_2 ((rd_T29 l1 x5_1).f2).length c206_2, .string ((rd_T29 l1 x5_1).f3), .string (⟨#[]⟩ : ByteArray)]) ?_ 4 _ rfl; (with_reducible repeat (first | refine blk_drewN ?_ _ | refine blk_drew ?_ | refine blk_alloc ?_ _)); refine blk_put (cs := #[.string ((rd_T29 l1 x5_1).f0), .slice A206_1 ((rd_T29 l1 x5_1).f1).length c206_1, .slice A206_2 ((rd_T29 l1 x5_1).f2).length c206_2, .string (⟨#[]⟩ : ByteArray), .string (⟨#[]⟩ : ByteArray)]) ?_ 3 _ rfl; (with_reducible repeat (first | refine blk_drewN ?_ _ | refine blk_drew ?_ | refine blk_alloc ?_ _)); refine blk_put (cs := #[.string ((rd_T29 l1 x5_1).f0), .slice A206_1 ((rd_T29 l1 x5_1).f1).length c206_1, .slice none 0 0, .string (⟨#[]⟩ : ByteArray), .string (⟨#[]⟩ : ByteArray)]) ?_ 2 _ rfl; (with_reducible repeat (first | refine blk_drewN ?_ _ | refine blk_drew ?_ | refine blk_alloc ?_ _)); refine blk_put (cs := #[.string ((rd_T29 l1 x5_1).f0), .slice none 0 0, .slice none 0 0, .string (⟨#[]⟩ : ByteArray), .string (⟨#[]⟩ : ByteArray)]) ?_ 1 _ rfl; (with_reducible repeat (first | refine blk_drewN ?_ _ | refine blk_drew ?_ | refine blk_alloc ?_ _)); refine blk_put (cs := #[.string (⟨#[]⟩ : ByteArray), .slice none 0 0, .slice none 0 0, .string (⟨#[]⟩ : ByteArray), .string (⟨#[]⟩ : ByteArray)]) ?_ 0 _ rfl; (with_reducible repeat (first | refine blk_drewN ?_ _ | refine blk_drew ?_ | refine blk_alloc ?_ _)); refine blk_far ?_ NB208_207.out _; (with_reducible repeat (first | refine blk_drewN ?_ _ | refine blk_drew ?_ | refine blk_alloc ?_ _)); refine blk_far ?_ NB208_207.out _; (with_reducible repeat (first | refine blk_drewN ?_ _ | refine blk_drew ?_ | refine blk_alloc ?_ _)); refine blk_far ?_ NB208_207.out _; (with_reducible repeat (first | refine blk_drewN ?_ _ | refine blk_drew ?_ | refine blk_alloc ?_ _)); refine blk_far ?_ NB208_207.out _; (with_reducible repeat (first | refine blk_drewN ?_ _ | refine blk_drew ?_ | refine blk_alloc ?_ _)); refine blk_far ?_ NB208_207.out _; (with_reducible repeat (first | refine blk_drewN ?_ _ | refine blk_drew ?_ | refine blk_alloc ?_ _)); exact BK208.out⟩, ⟨by repeat (first | (with_reducible first | exact HB.out | apply below_alloc | apply pw_below_drewN | apply below_drew1 | refine below_set ?_ GE207.out | refine below_set ?_ GE208.out) | exact HB.out)⟩⟩
                      · rw [if_neg c25] at H
                        have c25b0 : ((((rd_T29 l0 x5_1).f1).length : Int) == (((rd_T29 l1 x5_1).f1).length : Int)) = false := beq_eq_false_iff_ne.mpr c25
                        have c25b1 : ((((rd_T29 l0 x5_1).f1).length : Int) != (((rd_T29 l1 x5_1).f1).length : Int)) = true := bne_iff_ne.mpr c25
                        have c25b2 : (((rd_T29 l0 x5_1).f1).length == ((rd_T29 l1 x5_1).f1).length) = false := by first | simpa using c25 | (simp at c25 ⊢; omega)
                        have H' := Aside0.mk H
                        clear H
                        have hnb29 := NB207_208.out
                        have hnc29 := NB208_207.out
                        have hcz30_0 : w11.cell? ⟨gb207, 0, none⟩ = some (.string (⟨#[]⟩ : ByteArray)) := (blk_cell BK207.out 0).trans rfl
                        have hcz30_1 : w11.cell? ⟨gb207, 1, none⟩ = some (.slice none 0 0) := (blk_cell BK207.out 1).trans rfl
                        have hcz30_2 : w11.cell? ⟨gb207, 2, none⟩ = some (.slice none 0 0) := (blk_cell BK207.out 2).trans rfl
                        have hcz30_3 : w11.cell? ⟨gb207, 3, none⟩ = some (.string (⟨#[]⟩ : ByteArray)) := (blk_cell BK207.out 3).trans rfl
                        have hcz30_4 : w11.cell? ⟨gb207, 4, none⟩ = some (.string (⟨#[]⟩ : ByteArray)) := (blk_cell BK207.out 4).trans rfl
                        have hfz30_0 := blk_frozen BK207.out 0
                        have hfz30_1 := blk_frozen BK207.out 1
                        have hfz30_2 := blk_frozen BK207.out 2
                        have hfz30_3 := blk_frozen BK207.out 3
                        have hfz30_4 := blk_frozen BK207.out 4
                        have hcz31_0 : w11.cell? ⟨gb208, 0, none⟩ = some (.string (⟨#[]⟩ : ByteArray)) := (blk_cell BK208.out 0).trans rfl
                        have hcz31_1 : w11.cell? ⟨gb208, 1, none⟩ = some (.slice none 0 0) := (blk_cell BK208.out 1).trans rfl
                        have hcz31_2 : w11.cell? ⟨gb208, 2, none⟩ = some (.slice none 0 0) := (blk_cell BK208.out 2).trans rfl
                        have hcz31_3 : w11.cell? ⟨gb208, 3, none⟩ = some (.string (⟨#[]⟩ : ByteArray)) := (blk_cell BK208.out 3).trans rfl
                        have hcz31_4 : w11.cell? ⟨gb208, 4, none⟩ = some (.string (⟨#[]⟩ : ByteArray)) := (blk_cell BK208.out 4).trans rfl
                        have hfz31_0 := blk_frozen BK208.out 0
                        have hfz31_1 := blk_frozen BK208.out 1
                        have hfz31_2 := blk_frozen BK208.out 2
                        have hfz31_3 := blk_frozen BK208.out 3
                        have hfz31_4 := blk_frozen BK208.out 4
                        go_wp2
                        go_meet
                        case rel => exact ⟨_, (true), (by first | rfl | (simp; done) | (simp [*]; done)), H', ⟨by have := HK1.out; first | omega | exact Nat.le_refl _⟩, ⟨by (with_reducible repeat (first | refine blk_drewN ?_ _ | refine blk_drew ?_ | refine blk_alloc ?_ _)); refine blk_far ?_ NB207_208.out _; (with_reducible repeat (first | refine blk_drewN ?_ _ | refine blk_drew ?_ | refine blk_alloc ?_ _)); refine blk_far ?_ NB207_208.out _; (with_reducible repeat (first | refine blk_drewN ?_ _ | refine blk_drew ?_ | refine blk_alloc ?_ _)); refine blk_far ?_ NB207_208.out _; (with_reducible repeat (first | refine blk_drewN ?_ _ | refine blk_drew ?_ | refine blk_alloc ?_ _)); refine blk_far ?_ NB207_208.out _; (with_reducible repeat (first | refine blk_drewN ?_ _ | refine blk_drew ?_ | refine blk_alloc ?_ _)); refine blk_far ?_ NB207_208.out _; (with_reducible repeat (first | refine blk_drewN ?_ _ | refine blk_drew ?_ | refine blk_alloc ?_ _)); refine blk_put (cs := #[.string ((rd_T29 l0 x5_1).f0), .slice A205_1 ((rd_T29 l0 x5_1).f1).length c205_1, .slice A205_2 ((rd_T29 l0 x5_1).f2).length c205_2, .string ((rd_T29 l0 x5_1).f3), .string (⟨#[]⟩ : ByteArray)]) ?_ 4 _ rfl; (with_reducible repeat (first | refine blk_drewN ?_ _ | refine blk_drew ?_ | refine blk_alloc ?_ _)); refine blk_put (cs := #[.string ((rd_T29 l0 x5_1).f0), .slice A205_1 ((rd_T29 l0 x5_1).f1).length c205_1, .slice A205_2 ((rd_T29 l0 x5_1).f2).length c205_2, .string (⟨#[]⟩ : ByteArray), .string (⟨#[]⟩ : ByteArray)]) ?_ 3 _ rfl; (with_reducible repeat (first | refine blk_drewN ?_ _ | refine blk_drew ?_ | refine blk_alloc ?_ _)); refine blk_put (cs := #[.string ((rd_T29 l0 x5_1).f0), .slice A205_1 ((rd_T29 l0 x5_1).f1).length c205_1, .slice none 0 0, .string (⟨#[]⟩ : ByteArray), .string (⟨#[]⟩ : ByteArray)]) ?_ 2 _ rfl; (with_reducible repeat (first | refine blk_drewN ?_ _ | refine blk_drew ?_ | refine blk_alloc ?_ _)); refine blk_put (cs := #[.string ((rd_T29 l0 x5_1).f0), .slice none 0 0, .slice none 0 0, .string (⟨#[]⟩ : ByteArray), .string (⟨#[]⟩ : ByteArray)]) ?_ 1 _ rfl; (with_reducible repeat (first | refine blk_drewN ?_ _ | refine blk_drew ?_ | refine blk_alloc ?_ _)); refine blk_put (cs := #[.string (⟨#[]⟩ : ByteArray), .slice none 0 0, .slice none 0 0, .string (⟨#[]⟩ : ByteArray), .string (⟨#[]⟩ : ByteArray)]) ?_ 0 _ rfl; (with_reducible repeat (first | refine blk_drewN ?_ _ | refine blk_drew ?_ | refine blk_alloc ?_ _)); exact BK207.out⟩, ⟨by (with_reducible repeat (first | refine blk_drewN ?_ _ | refine blk_drew ?_ | refine blk_alloc ?_ _)); refine blk_put (cs := #[.string ((rd_T29 l1 x5_1).f0), .slice A206_1 ((rd_T29 l1 x5_1).f1).length c206_1, .slice A206_2 ((rd_T29 l1 x5_1).f2).length c206_2, .string ((rd_T29 l1 x5_1).f3), .string (⟨#[]⟩ : ByteArray)]) ?_ 4 _ rfl; (with_reducible repeat (first | refine blk_drewN ?_ _ | refine blk_drew ?_ | refine blk_alloc ?_ _)); refine blk_put (cs := #[.string ((rd_T29 l1 x5_1).f0), .slice A206_1 ((rd_T29 l1 x5_1).f1).length c206_1, .slice A206_2 ((rd_T29 l1 x5_1).f2).length c206_2, .string (⟨#[]⟩ : ByteArray), .string (⟨#[]⟩ : ByteArray)]) ?_ 3 _ rfl; (with_reducible repeat (first | refine blk_drewN ?_ _ | refine blk_drew ?_ | refine blk_alloc ?_ _)); refine blk_put (cs := #[.string ((rd_T29 l1 x5_1).f0), .slice A206_1 ((rd_T29 l1 x5_1).f1).length c206_1, .slice none 0 0, .string (⟨#[]⟩ : ByteArray), .string (⟨#[]⟩ : ByteArray)]) ?_ 2 _ rfl; (with_reducible repeat (first | refine blk_drewN ?_ _ | refine blk_drew ?_ | refine blk_alloc ?_ _)); refine blk_put (cs := #[.string ((rd_T29 l1 x5_1).f0), .slice none 0 0, .slice none 0 0, .string (⟨#[]⟩ : ByteArray), .string (⟨#[]⟩ : ByteArray)]) ?_ 1 _ rfl; (with_reducible repeat (first | refine blk_drewN ?_ _ | refine blk_drew ?_ | refine blk_alloc ?_ _)); refine blk_put (cs := #[.string (⟨#[]⟩ : ByteArray), .slice none 0 0, .slice none 0 0, .string (⟨#[]⟩ : ByteArray), .string (⟨#[]⟩ : ByteArray)]) ?_ 0 _ rfl; (with_reducible repeat (first | refine blk_drewN ?_ _ | refine blk_drew ?_ | refine blk_alloc ?_ _)); refine blk_far ?_ NB208_207.out _; (with_reducible repeat (first | refine blk_drewN ?_ _ | refine blk_drew ?_ | refine blk_alloc ?_ _)); refine blk_far ?_ NB208_207.out _; (with_reducible repeat (first | refine blk_drewN ?_ _ | refine blk_drew ?_ | refine blk_alloc ?_ _)); refine blk_far ?_ NB208_207.out _; (with_reducible repeat (first | refine blk_drewN ?_ _ | refine blk_drew ?_ | refine blk_alloc ?_ _)); refine blk_far ?_ NB208_207.out _; (with_reducible repeat (first | refine blk_drewN ?_ _ | refine blk_drew ?_ | refine blk_alloc ?_ _)); refine blk_far ?_ NB208_207.out _; (with_reducible repeat (first | refine blk_drewN ?_ _ | refine blk_drew ?_ | refine blk_alloc ?_ _)); exact BK208.out⟩, ⟨by repeat (first | (with_reducible first | exact HB.out | apply below_alloc | apply pw_below_drewN | apply below_drew1 | refine below_set ?_ GE207.out | refine below_set ?_ GE208.out) | exact HB.out)⟩⟩
                    · rw [if_neg c24] at H
                      have c24b0 : (((rd_T29 l0 x5_1).f4).toList == ((rd_T29 l1 x5_1).f4).toList) = false := beq_eq_false_iff_ne.mpr c24
                      have c24b1 : (((rd_T29 l0 x5_1).f4).toList != ((rd_T29 l1 x5_1).f4).toList) = true := bne_iff_ne.mpr c24
                      have H' := Aside0.mk H
                      clear H
                      have hnb32 := NB207_208.out
                      have hnc32 := NB208_207.out
                      have hcz33_0 : w11.cell? ⟨gb207, 0, none⟩ = some (.string (⟨#[]⟩ : ByteArray)) := (blk_cell BK207.out 0).trans rfl
                      have hcz33_1 : w11.cell? ⟨gb207, 1, none⟩ = some (.slice none 0 0) := (blk_cell BK207.out 1).trans rfl
                      have hcz33_2 : w11.cell? ⟨gb207, 2, none⟩ = some (.slice none 0 0) := (blk_cell BK207.out 2).trans rfl
                      have hcz33_3 : w11.cell? ⟨gb207, 3, none⟩ = some (.string (⟨#[]⟩ : ByteArray)) := (blk_cell BK207.out 3).trans rfl
                      have hcz33_4 : w11.cell? ⟨gb207, 4, none⟩ = some (.string (⟨#[]⟩ : ByteArray)) := (blk_cell BK207.out 4).trans rfl
                      have hfz33_0 := blk_frozen BK207.out 0
                      have hfz33_1 := blk_frozen BK207.out 1
                      have hfz33_2 := blk_frozen BK207.out 2
                      have hfz33_3 := blk_frozen BK207.out 3
                      have hfz33_4 := blk_frozen BK207.out 4
                      have hcz34_0 : w11.cell? ⟨gb208, 0, none⟩ = some (.string (⟨#[]⟩ : ByteArray)) := (blk_cell BK208.out 0).trans rfl
                      have hcz34_1 : w11.cell? ⟨gb208, 1, none⟩ = some (.slice none 0 0) := (blk_cell BK208.out 1).trans rfl
                      have hcz34_2 : w11.cell? ⟨gb208, 2, none⟩ = some (.slice none 0 0) := (blk_cell BK208.out 2).trans rfl
                      have hcz34_3 : w11.cell? ⟨gb208, 3, none⟩ = some (.string (⟨#[]⟩ : ByteArray)) := (blk_cell BK208.out 3).trans rfl
                      have hcz34_4 : w11.cell? ⟨gb208, 4, none⟩ = some (.string (⟨#[]⟩ : ByteArray)) := (blk_cell BK208.out 4).trans rfl
                      have hfz34_0 := blk_frozen BK208.out 0
                      have hfz34_1 := blk_frozen BK208.out 1
                      have hfz34_2 := blk_frozen BK208.out 2
                      have hfz34_3 := blk_frozen BK208.out 3
                      have hfz34_4 := blk_frozen BK208.out 4
                      go_wp2
                      go_meet
                      case rel => exact ⟨_, (true), (by first | rfl | (simp; done) | (simp [*]; done)), H', ⟨by have := HK1.out; first | omega | exact Nat.le_refl _⟩, ⟨by (with_reducible repeat (first | refine blk_drewN ?_ _ | refine blk_drew ?_ | refine blk_alloc ?_ _)); refine blk_far ?_ NB207_208.out _; (with_reducible repeat (first | refine blk_drewN ?_ _ | refine blk_drew ?_ | refine blk_alloc ?_ _)); refine blk_far ?_ NB207_208.out _; (with_reducible repeat (first | refine blk_drewN ?_ _ | refine blk_drew ?_ | refine blk_alloc ?_ _)); refine blk_far ?_ NB207_208.out _; (with_reducible repeat (first | refine blk_drewN ?_ _ | refine blk_drew ?_ | refine blk_alloc ?_ _)); refine blk_far ?_ NB207_208.out _; (with_reducible repeat (first | refine blk_drewN ?_ _ | refine blk_drew ?_ | refine blk_alloc ?_ _)); refine blk_far ?_ NB207_208.out _; (with_reducible repeat (first | refine blk_drewN ?_ _ | refine blk_drew ?_ | refine blk_alloc ?_ _)); refine blk_put (cs := #[.string ((rd_T29 l0 x5_1).f0), .slice A205_1 ((rd_T29 l0 x5_1).f1).length c205_1, .slice A205_2 ((rd_T29 l0 x5_1).f2).length c205_2, .string ((rd_T29 l0 x5_1).f3), .string (⟨#[]⟩ : ByteArray)]) ?_ 4 _ rfl; (with_reducible repeat (first | refine blk_drewN ?_ _ | refine blk_drew ?_ | refine blk_alloc ?_ _)); refine blk_put (cs := #[.string ((rd_T29 l0 x5_1).f0), .slice A205_1 ((rd_T29 l0 x5_1).f1).length c205_1, .slice A205_2 ((rd_T29 l0 x5_1).f2).length c205_2, .string (⟨#[]⟩ : ByteArray), .string (⟨#[]⟩ : ByteArray)]) ?_ 3 _ rfl; (with_reducible repeat (first | refine blk_drewN ?_ _ | refine blk_drew ?_ | refine blk_alloc ?_ _)); refine blk_put (cs := #[.string ((rd_T29 l0 x5_1).f0), .slice A205_1 ((rd_T29 l0 x5_1).f1).length c205_1, .slice none 0 0, .string (⟨#[]⟩ : ByteArray), .string (⟨#[]⟩ : ByteArray)]) ?_ 2 _ rfl; (with_reducible repeat (first | refine blk_drewN ?_ _ | refine blk_drew ?_ | refine blk_alloc ?_ _)); refine blk_put (cs := #[.string ((rd_T29 l0 x5_1).f0), .slice none 0 0, .slice none 0 0, .string (⟨#[]⟩ : ByteArray), .string (⟨#[]⟩ : ByteArray)]) ?_ 1 _ rfl; (with_reducible repeat (first | refine blk_drewN ?_ _ | refine blk_drew ?_ | refine blk_alloc ?_ _)); refine blk_put (cs := #[.string (⟨#[]⟩ : ByteArray), .slice none 0 0, .slice none 0 0, .string (⟨#[]⟩ : ByteArray), .string (⟨#[]⟩ : ByteArray)]) ?_ 0 _ rfl; (with_reducible repeat (first | refine blk_drewN ?_ _ | refine blk_drew ?_ | refine blk_alloc ?_ _)); exact BK207.out⟩, ⟨by (with_reducible repeat (first | refine blk_drewN ?_ _ | refine blk_drew ?_ | refine blk_alloc ?_ _)); refine blk_put (cs := #[.string ((rd_T29 l1 x5_1).f0), .slice A206_1 ((rd_T29 l1 x5_1).f1).length c206_1, .slice A206_2 ((rd_T29 l1 x5_1).f2).length c206_2, .string ((rd_T29 l1 x5_1).f3), .string (⟨#[]⟩ : ByteArray)]) ?_ 4 _ rfl; (with_reducible repeat (first | refine blk_drewN ?_ _ | refine blk_drew ?_ | refine blk_alloc ?_ _)); refine blk_put (cs := #[.string ((rd_T29 l1 x5_1).f0), .slice A206_1 ((rd_T29 l1 x5_1).f1).length c206_1, .slice A206_2 ((rd_T29 l1 x5_1).f2).length c206_2, .string (⟨#[]⟩ : ByteArray), .string (⟨#[]⟩ : ByteArray)]) ?_ 3 _ rfl; (with_reducible repeat (first | refine blk_drewN ?_ _ | refine blk_drew ?_ | refine blk_alloc ?_ _)); refine blk_put (cs := #[.string ((rd_T29 l1 x5_1).f0), .slice A206_1 ((rd_T29 l1 x5_1).f1).length c206_1, .slice none 0 0, .string (⟨#[]⟩ : ByteArray), .string (⟨#[]⟩ : ByteArray)]) ?_ 2 _ rfl; (with_reducible repeat (first | refine blk_drewN ?_ _ | refine blk_drew ?_ | refine blk_alloc ?_ _)); refine blk_put (cs := #[.string ((rd_T29 l1 x5_1).f0), .slice none 0 0, .slice none 0 0, .string (⟨#[]⟩ : ByteArray), .string (⟨#[]⟩ : ByteArray)]) ?_ 1 _ rfl; (with_reducible repeat (first | refine blk_drewN ?_ _ | refine blk_drew ?_ | refine blk_alloc ?_ _)); refine blk_put (cs := #[.string (⟨#[]⟩ : ByteArray), .slice none 0 0, .slice none 0 0, .string (⟨#[]⟩ : ByteArray), .string (⟨#[]⟩ : ByteArray)]) ?_ 0 _ rfl; (with_reducible repeat (first | refine blk_drewN ?_ _ | refine blk_drew ?_ | refine blk_alloc ?_ _)); refine blk_far ?_ NB208_207.out _; (with_reducible repeat (first | refine blk_drewN ?_ _ | refine blk_drew ?_ | refine blk_alloc ?_ _)); refine blk_far ?_ NB208_207.out _; (with_reducible repeat (first | refine blk_drewN ?_ _ | refine blk_drew ?_ | refine blk_alloc ?_ _)); refine blk_far ?_ NB208_207.out _; (with_reducible repeat (first | refine blk_drewN ?_ _ | refine blk_drew ?_ | refine blk_alloc ?_ _)); refine blk_far ?_ NB208_207.out _; (with_reducible repeat (first | refine blk_drewN ?_ _ | refine blk_drew ?_ | refine blk_alloc ?_ _)); refine blk_far ?_ NB208_207.out _; (with_reducible repeat (first | refine blk_drewN ?_ _ | refine blk_drew ?_ | refine blk_alloc ?_ _)); exact BK208.out⟩, ⟨by repeat (first | (with_reducible first | exact HB.out | apply below_alloc | apply pw_below_drewN | apply below_drew1 | refine below_set ?_ GE207.out | refine below_set ?_ GE208.out) | exact HB.out)⟩⟩
                  · rw [if_neg c23] at H
                    have c23b0 : (((rd_T29 l0 x5_1).f3).toList == ((rd_T29 l1 x5_1).f3).toList) = false := beq_eq_false_iff_ne.mpr c23
                    have c23b1 : (((rd_T29 l0 x5_1).f3).toList != ((rd_T29 l1 x5_1).f3).toList) = true := bne_iff_ne.mpr c23
                    have H' := Aside0.mk H
                    clear H
                    have hnb35 := NB207_208.out
                    have hnc35 := NB208_207.out
                    have hcz36_0 : w11.cell? ⟨gb207, 0, none⟩ = some (.string (⟨#[]⟩ : ByteArray)) := (blk_cell BK207.out 0).trans rfl
                    have hcz36_1 : w11.cell? ⟨gb207, 1, none⟩ = some (.slice none 0 0) := (blk_cell BK207.out 1).trans rfl
                    have hcz36_2 : w11.cell? ⟨gb207, 2, none⟩ = some (.slice none 0 0) := (blk_cell BK207.out 2).trans rfl
                    have hcz36_3 : w11.cell? ⟨gb207, 3, none⟩ = some (.string (⟨#[]⟩ : ByteArray)) := (blk_cell BK207.out 3).trans rfl
                    have hcz36_4 : w11.cell? ⟨gb207, 4, none⟩ = some (.string (⟨#[]⟩ : ByteArray)) := (blk_cell BK207.out 4).trans rfl
                    have hfz36_0 := blk_frozen BK207.out 0
                    have hfz36_1 := blk_frozen BK207.out 1
                    have hfz36_2 := blk_frozen BK207.out 2
                    have hfz36_3 := blk_frozen BK207.out 3
                    have hfz36_4 := blk_frozen BK207.out 4
                    have hcz37_0 : w11.cell? ⟨gb208, 0, none⟩ = some (.string (⟨#[]⟩ : ByteArray)) := (blk_cell BK208.out 0).trans rfl
                    have hcz37_1 : w11.cell? ⟨gb208, 1, none⟩ = some (.slice none 0 0) := (blk_cell BK208.out 1).trans rfl
                    have hcz37_2 : w11.cell? ⟨gb208, 2, none⟩ = some (.slice none 0 0) := (blk_cell BK208.out 2).trans rfl
                    have hcz37_3 : w11.cell? ⟨gb208, 3, none⟩ = some (.string (⟨#[]⟩ : ByteArray)) := (blk_cell BK208.out 3).trans rfl
                    have hcz37_4 : w11.cell? ⟨gb208, 4, none⟩ = some (.string (⟨#[]⟩ : ByteArray)) := (blk_cell BK208.out 4).trans rfl
                    have hfz37_0 := blk_frozen BK208.out 0
                    have hfz37_1 := blk_frozen BK208.out 1
                    have hfz37_2 := blk_frozen BK208.out 2
                    have hfz37_3 := blk_frozen BK208.out 3
                    have hfz37_4 := blk_frozen BK208.out 4
                    go_wp2
                    go_meet
                    case rel => exact ⟨_, (true), (by first | rfl | (simp; done) | (simp [*]; done)), H', ⟨by have := HK1.out; first | omega | exact Nat.le_refl _⟩, ⟨by (with_reducible repeat (first | refine blk_drewN ?_ _ | refine blk_drew ?_ | refine blk_alloc ?_ _)); refine blk_far ?_ NB207_208.out _; (with_reducible repeat (first | refine blk_drewN ?_ _ | refine blk_drew ?_ | refine blk_alloc ?_ _)); refine blk_far ?_ NB207_208.out _; (with_reducible repeat (first | refine blk_drewN ?_ _ | refine blk_drew ?_ | refine blk_alloc ?_ _)); refine blk_far ?_ NB207_208.out _; (with_reducible repeat (first | refine blk_drewN ?_ _ | refine blk_drew ?_ | refine blk_alloc ?_ _)); refine blk_far ?_ NB207_208.out _; (with_reducible repeat (first | refine blk_drewN ?_ _ | refine blk_drew ?_ | refine blk_alloc ?_ _)); refine blk_far ?_ NB207_208.out _; (with_reducible repeat (first | refine blk_drewN ?_ _ | refine blk_drew ?_ | refine blk_alloc ?_ _)); refine blk_put (cs := #[.string ((rd_T29 l0 x5_1).f0), .slice A205_1 ((rd_T29 l0 x5_1).f1).length c205_1, .slice A205_2 ((rd_T29 l0 x5_1).f2).length c205_2, .string ((rd_T29 l0 x5_1).f3), .string (⟨#[]⟩ : ByteArray)]) ?_ 4 _ rfl; (with_reducible repeat (first | refine blk_drewN ?_ _ | refine blk_drew ?_ | refine blk_alloc ?_ _)); refine blk_put (cs := #[.string ((rd_T29 l0 x5_1).f0), .slice A205_1 ((rd_T29 l0 x5_1).f1).length c205_1, .slice A205_2 ((rd_T29 l0 x5_1).f2).length c205_2, .string (⟨#[]⟩ : ByteArray), .string (⟨#[]⟩ : ByteArray)]) ?_ 3 _ rfl; (with_reducible repeat (first | refine blk_drewN ?_ _ | refine blk_drew ?_ | refine blk_alloc ?_ _)); refine blk_put (cs := #[.string ((rd_T29 l0 x5_1).f0), .slice A205_1 ((rd_T29 l0 x5_1).f1).length c205_1, .slice none 0 0, .string (⟨#[]⟩ : ByteArray), .string (⟨#[]⟩ : ByteArray)]) ?_ 2 _ rfl; (with_reducible repeat (first | refine blk_drewN ?_ _ | refine blk_drew ?_ | refine blk_alloc ?_ _)); refine blk_put (cs := #[.string ((rd_T29 l0 x5_1).f0), .slice none 0 0, .slice none 0 0, .string (⟨#[]⟩ : ByteArray), .string (⟨#[]⟩ : ByteArray)]) ?_ 1 _ rfl; (with_reducible repeat (first | refine blk_drewN ?_ _ | refine blk_drew ?_ | refine blk_alloc ?_ _)); refine blk_put (cs := #[.string (⟨#[]⟩ : ByteArray), .slice none 0 0, .slice none 0 0, .string (⟨#[]⟩ : ByteArray), .string (⟨#[]⟩ : ByteArray)]) ?_ 0 _ rfl; (with_reducible repeat (first | refine blk_drewN ?_ _ | refine blk_drew ?_ | refine blk_alloc ?_ _)); exact BK207.out⟩, ⟨by (with_reducible repeat (first | refine blk_drewN ?_ _ | refine blk_drew ?_ | refine blk_alloc ?_ _)); refine blk_put (cs := #[.string ((rd_T29 l1 x5_1).f0), .slice A206_1 ((rd_T29 l1 x5_1).f1).length c206_1, .slice A206_2 ((rd_T29 l1 x5_1).f2).length c206_2, .string ((rd_T29 l1 x5_1).f3), .string (⟨#[]⟩ : ByteArray)]) ?_ 4 _ rfl; (with_reducible repeat (first | refine blk_drewN ?_ _ | refine blk_drew ?_ | refine blk_alloc ?_ _)); refine blk_put (cs := #[.string ((rd_T29 l1 x5_1).f0), .slice A206_1 ((rd_T29 l1 x5_1).f1).length c206_1, .slice A206_2 ((rd_T29 l1 x5_1).f2).length c206_2, .string (⟨#[]⟩ : ByteArray), .string (⟨#[]⟩ : ByteArray)]) ?_ 3 _ rfl; (with_reducible repeat (first | refine blk_drewN ?_ _ | refine blk_drew ?_ | refine blk_alloc ?_ _)); refine blk_put (cs := #[.string ((rd_T29 l1 x5_1).f0), .slice A206_1 ((rd_T29 l1 x5_1).f1).length c206_1, .slice none 0 0, .string (⟨#[]⟩ : ByteArray), .string (⟨#[]⟩ : ByteArray)]) ?_ 2 _ rfl; (with_reducible repeat (first | refine blk_drewN ?_ _ | refine blk_drew ?_ | refine blk_alloc ?_ _)); refine blk_put (cs := #[.string ((rd_T29 l1 x5_1).f0), .slice none 0 0, .slice none 0 0, .string (⟨#[]⟩ : ByteArray), .string (⟨#[]⟩ : ByteArray)]) ?_ 1 _ rfl; (with_reducible repeat (first | refine blk_drewN ?_ _ | refine blk_drew ?_ | refine blk_alloc ?_ _)); refine blk_put (cs := #[.string (⟨#[]⟩ : ByteArray), .slice none 0 0, .slice none 0 0, .string (⟨#[]⟩ : ByteArray), .string (⟨#[]⟩ : ByteArray)]) ?_ 0 _ rfl; (with_reducible repeat (first | refine blk_drewN ?_ _ | refine blk_drew ?_ | refine blk_alloc ?_ _)); refine blk_far ?_ NB208_207.out _; (with_reducible repeat (first | refine blk_drewN ?_ _ | refine blk_drew ?_ | refine blk_alloc ?_ _)); refine blk_far ?_ NB208_207.out _; (with_reducible repeat (first | refine blk_drewN ?_ _ | refine blk_drew ?_ | refine blk_alloc ?_ _)); refine blk_far ?_ NB208_207.out _; (with_reducible repeat (first | refine blk_drewN ?_ _ | refine blk_drew ?_ | refine blk_alloc ?_ _)); refine blk_far ?_ NB208_207.out _; (with_reducible repeat (first | refine blk_drewN ?_ _ | refine blk_drew ?_ | refine blk_alloc ?_ _)); refine blk_far ?_ NB208_207.out _; (with_reducible repeat (first | refine blk_drewN ?_ _ | refine blk_drew ?_ | refine blk_alloc ?_ _)); exact BK208.out⟩, ⟨by repeat (first | (with_reducible first | exact HB.out | apply below_alloc | apply pw_below_drewN | apply below_drew1 | refine below_set ?_ GE207.out | refine below_set ?_ GE208.out) | exact HB.out)⟩⟩
                · rw [if_neg c22] at H
                  have c22b0 : (((rd_T29 l0 x5_1).f0).toList == ((rd_T29 l1 x5_1).f0).toList) = false := beq_eq_false_iff_ne.mpr c22
                  have c22b1 : (((rd_T29 l0 x5_1).f0).toList != ((rd_T29 l1 x5_1).f0).toList) = true := bne_iff_ne.mpr c22
                  (first | rw [c22b0] | (simp only [i64_w, i32_w]; rw [c22b0]) | skip)
                  have H' := Aside0.mk H
                  clear H
                  have hnb38 := NB207_208.out
                  have hnc38 := NB208_207.out
                  have hcz39_0 : w11.cell? ⟨gb207, 0, none⟩ = some (.string (⟨#[]⟩ : ByteArray)) := (blk_cell BK207.out 0).trans rfl
                  have hcz39_1 : w11.cell? ⟨gb207, 1, none⟩ = some (.slice none 0 0) := (blk_cell BK207.out 1).trans rfl
                  have hcz39_2 : w11.cell? ⟨gb207, 2, none⟩ = some (.slice none 0 0) := (blk_cell BK207.out 2).trans rfl
                  have hcz39_3 : w11.cell? ⟨gb207, 3, none⟩ = some (.string (⟨#[]⟩ : ByteArray)) := (blk_cell BK207.out 3).trans rfl
                  have hcz39_4 : w11.cell? ⟨gb207, 4, none⟩ = some (.string (⟨#[]⟩ : ByteArray)) := (blk_cell BK207.out 4).trans rfl
                  have hfz39_0 := blk_frozen BK207.out 0
                  have hfz39_1 := blk_frozen BK207.out 1
                  have hfz39_2 := blk_frozen BK207.out 2
                  have hfz39_3 := blk_frozen BK207.out 3
                  have hfz39_4 := blk_frozen BK207.out 4
                  have hcz40_0 : w11.cell? ⟨gb208, 0, none⟩ = some (.string (⟨#[]⟩ : ByteArray)) := (blk_cell BK208.out 0).trans rfl
                  have hcz40_1 : w11.cell? ⟨gb208, 1, none⟩ = some (.slice none 0 0) := (blk_cell BK208.out 1).trans rfl
                  have hcz40_2 : w11.cell? ⟨gb208, 2, none⟩ = some (.slice none 0 0) := (blk_cell BK208.out 2).trans rfl
                  have hcz40_3 : w11.cell? ⟨gb208, 3, none⟩ = some (.string (⟨#[]⟩ : ByteArray)) := (blk_cell BK208.out 3).trans rfl
                  have hcz40_4 : w11.cell? ⟨gb208, 4, none⟩ = some (.string (⟨#[]⟩ : ByteArray)) := (blk_cell BK208.out 4).trans rfl
                  have hfz40_0 := blk_frozen BK208.out 0
                  have hfz40_1 := blk_frozen BK208.out 1
                  have hfz40_2 := blk_frozen BK208.out 2
                  have hfz40_3 := blk_frozen BK208.out 3
                  have hfz40_4 := blk_frozen BK208.out 4
                  go_wp2
                  go_meet
                  case rel => exact ⟨_, (true), (by first | rfl | (simp; done) | (simp [*]; done)), H', ⟨by have := HK1.out; first | omega | exact Nat.le_refl _⟩, ⟨by (with_reducible repeat (first | refine blk_drewN ?_ _ | refine blk_drew ?_ | refine blk_alloc ?_ _)); refine blk_far ?_ NB207_208.out _; (with_reducible repeat (first | refine blk_drewN ?_ _ | refine blk_drew ?_ | refine blk_alloc ?_ _)); refine blk_far ?_ NB207_208.out _; (with_reducible repeat (first | refine blk_drewN ?_ _ | refine blk_drew ?_ | refine blk_alloc ?_ _)); refine blk_far ?_ NB207_208.out _; (with_reducible repeat (first | refine blk_drewN ?_ _ | refine blk_drew ?_ | refine blk_alloc ?_ _)); refine blk_far ?_ NB207_208.out _; (with_reducible repeat (first | refine blk_drewN ?_ _ | refine blk_drew ?_ | refine blk_alloc ?_ _)); refine blk_far ?_ NB207_208.out _; (with_reducible repeat (first | refine blk_drewN ?_ _ | refine blk_drew ?_ | refine blk_alloc ?_ _)); refine blk_put (cs := #[.string ((rd_T29 l0 x5_1).f0), .slice A205_1 ((rd_T29 l0 x5_1).f1).length c205_1, .slice A205_2 ((rd_T29 l0 x5_1).f2).length c205_2, .string ((rd_T29 l0 x5_1).f3), .string (⟨#[]⟩ : ByteArray)]) ?_ 4 _ rfl; (with_reducible repeat (first | refine blk_drewN ?_ _ | refine blk_drew ?_ | refine blk_alloc ?_ _)); refine blk_put (cs := #[.string ((rd_T29 l0 x5_1).f0), .slice A205_1 ((rd_T29 l0 x5_1).f1).length c205_1, .slice A205_2 ((rd_T29 l0 x5_1).f2).length c205_2, .string (⟨#[]⟩ : ByteArray), .string (⟨#[]⟩ : ByteArray)]) ?_ 3 _ rfl; (with_reducible repeat (first | refine blk_drewN ?_ _ | refine blk_drew ?_ | refine blk_alloc ?_ _)); refine blk_put (cs := #[.string ((rd_T29 l0 x5_1).f0), .slice A205_1 ((rd_T29 l0 x5_1).f1).length c205_1, .slice none 0 0, .string (⟨#[]⟩ : ByteArray), .string (⟨#[]⟩ : ByteArray)]) ?_ 2 _ rfl; (with_reducible repeat (first | refine blk_drewN ?_ _ | refine blk_drew ?_ | refine blk_alloc ?_ _)); refine blk_put (cs := #[.string ((rd_T29 l0 x5_1).f0), .slice none 0 0, .slice none 0 0, .string (⟨#[]⟩ : ByteArray), .string (⟨#[]⟩ : ByteArray)]) ?_ 1 _ rfl; (with_reducible repeat (first | refine blk_drewN ?_ _ | refine blk_drew ?_ | refine blk_alloc ?_ _)); refine blk_put (cs := #[.string (⟨#[]⟩ : ByteArray), .slice none 0 0, .slice none 0 0, .string (⟨#[]⟩ : ByteArray), .string (⟨#[]⟩ : ByteArray)]) ?_ 0 _ rfl; (with_reducible repeat (first | refine blk_drewN ?_ _ | refine blk_drew ?_ | refine blk_alloc ?_ _)); exact BK207.out⟩, ⟨by (with_reducible repeat (first | refine blk_drewN ?_ _ | refine blk_drew ?_ | refine blk_alloc ?_ _)); refine blk_put (cs := #[.string ((rd_T29 l1 x5_1).f0), .slice A206_1 ((rd_T29 l1 x5_1).f1).length c206_1, .slice A206_2 ((rd_T29 l1 x5_1).f2).length c206_2, .string ((rd_T29 l1 x5_1).f3), .string (⟨#[]⟩ : ByteArray)]) ?_ 4 _ rfl; (with_reducible repeat (first | refine blk_drewN ?_ _ | refine blk_drew ?_ | refine blk_alloc ?_ _)); refine blk_put (cs := #[.string ((rd_T29 l1 x5_1).f0), .slice A206_1 ((rd_T29 l1 x5_1).f1).length c206_1, .slice A206_2 ((rd_T29 l1 x5_1).f2).length c206_2, .string (⟨#[]⟩ : ByteArray), .string (⟨#[]⟩ : ByteArray)]) ?_ 3 _ rfl; (with_reducible repeat (first | refine blk_drewN ?_ _ | refine blk_drew ?_ | refine blk_alloc ?_ _)); refine blk_put (cs := #[.string ((rd_T29 l1 x5_1).f0), .slice A206_1 ((rd_T29 l1 x5_1).f1).length c206_1, .slice none 0 0, .string (⟨#[]⟩ : ByteArray), .string (⟨#[]⟩ : ByteArray)]) ?_ 2 _ rfl; (with_reducible repeat (first | refine blk_drewN ?_ _ | refine blk_drew ?_ | refine blk_alloc ?_ _)); refine blk_put (cs := #[.string ((rd_T29 l1 x5_1).f0), .slice none 0 0, .slice none 0 0, .string (⟨#[]⟩ : ByteArray), .string (⟨#[]⟩ : ByteArray)]) ?_ 1 _ rfl; (with_reducible repeat (first | refine blk_drewN ?_ _ | refine blk_drew ?_ | refine blk_alloc ?_ _)); refine blk_put (cs := #[.string (⟨#[]⟩ : ByteArray), .slice none 0 0, .slice none 0 0, .string (⟨#[]⟩ : ByteArray), .string (⟨#[]⟩ : ByteArray)]) ?_ 0 _ rfl; (with_reducible repeat (first | refine blk_drewN ?_ _ | refine blk_drew ?_ | refine blk_alloc ?_ _)); refine blk_far ?_ NB208_207.out _; (with_reducible repeat (first | refine blk_drewN ?_ _ | refine blk_drew ?_ | refine blk_alloc ?_ _)); refine blk_far ?_ NB208_207.out _; (with_reducible repeat (first | refine blk_drewN ?_ _ | refine blk_drew ?_ | refine blk_alloc ?_ _)); refine blk_far ?_ NB208_207.out _; (with_reducible repeat (first | refine blk_drewN ?_ _ | refine blk_drew ?_ | refine blk_alloc ?_ _)); refine blk_far ?_ NB208_207.out _; (with_reducible repeat (first | refine blk_drewN ?_ _ | refine blk_drew ?_ | refine blk_alloc ?_ _)); refine blk_far ?_ NB208_207.out _; (with_reducible repeat (first | refine blk_drewN ?_ _ | refine blk_drew ?_ | refine blk_alloc ?_ _)); exact BK208.out⟩, ⟨by repeat (first | (with_reducible first | exact HB.out | apply below_alloc | apply pw_below_drewN | apply below_drew1 | refine below_set ?_ GE207.out | refine below_set ?_ GE208.out) | exact HB.out)⟩⟩
              case rest =>
                clear HC7
                try clear c1
                try clear c2
                try clear p2
                try clear q2
                try clear hx2
                try clear c3
                try clear c3b0
                try clear c3b1
                try clear c3b2
                try clear c4
                try clear c4b0
                try clear c5
                try clear c5b0
                try clear c6
                try clear c6b0
                try clear c15
                try clear c20
                try clear p20
                try clear q20
                try clear hx20
                try clear c22
                try clear c22b0
                try clear c22b1
                try clear c23
                try clear c23b0
                try clear c23b1
                try clear c24
                try clear c24b0
                try clear c24b1
                try clear c25
                try clear c25b0
                try clear c25b1
                try clear c25b2
                try clear c26
                try clear c29
                try clear c32
                try clear c35
                try clear c38
                try clear hcz27_0
                try clear hcz27_1
                try clear hcz27_2
                try clear hcz27_3
                try clear hcz27_4
                try clear hcz28_0
                try clear hcz28_1
                try clear hcz28_2
                try clear hcz28_3
                try clear hcz28_4
                try clear hcz30_0
                try clear hcz30_1
                try clear hcz30_2
                try clear hcz30_3
                try clear hcz30_4
                try clear hcz31_0
                try clear hcz31_1
                try clear hcz31_2
                try clear hcz31_3
                try clear hcz31_4
                try clear hcz33_0
                try clear hcz33_1
                try clear hcz33_2
                try clear hcz33_3
                try clear hcz33_4
                try clear hcz34_0
                try clear hcz34_1
                try clear hcz34_2
                try clear hcz34_3
                try clear hcz34_4
                try clear hcz36_0
                try clear hcz36_1
                try clear hcz36_2
                try clear hcz36_3
                try clear hcz36_4
                try clear hcz37_0
                try clear hcz37_1
                try clear hcz37_2
                try clear hcz37_3
                try clear hcz37_4
                try clear hcz39_0
                try clear hcz39_1
                try clear hcz39_2
                try clear hcz39_3
                try clear hcz39_4
                try clear hcz40_0
                try clear hcz40_1
                try clear hcz40_2
                try clear hcz40_3
                try clear hcz40_4
                try clear hfz27_0
                try clear hfz27_1
                try clear hfz27_2
                try clear hfz27_3
                try clear hfz27_4
                try clear hfz28_0
                try clear hfz28_1
                try clear hfz28_2
                try clear hfz28_3
                try clear hfz28_4
                try clear hfz30_0
                try clear hfz30_1
                try clear hfz30_2
                try clear hfz30_3
                try clear hfz30_4
                try clear hfz31_0
                try clear hfz31_1
                try clear hfz31_2
                try clear hfz31_3
                try clear hfz31_4
                try clear hfz33_0
                try clear hfz33_1
                try clear hfz33_2
                try clear hfz33_3
                try clear hfz33_4
                try clear hfz34_0
                try clear hfz34_1
                try clear hfz34_2
                try clear hfz34_3
                try clear hfz34_4
                try clear hfz36_0
                try clear hfz36_1
                try clear hfz36_2
                try clear hfz36_3
                try clear hfz36_4
                try clear hfz37_0
                try clear hfz37_1
                try clear hfz37_2
                try clear hfz37_3
                try clear hfz37_4
                try clear hfz39_0
                try clear hfz39_1
                try clear hfz39_2
                try clear hfz39_3
                try clear hfz39_4
                try clear hfz40_0
                try clear hfz40_1
                try clear hfz40_2
                try clear hfz40_3
                try clear hfz40_4
                try clear hx205_0
                try clear hx205_1
                try clear hx205_2
                try clear hx205_3
                try clear hx205_4
                try clear hx206_0
                try clear hx206_1
                try clear hx206_2
                try clear hx206_3
                try clear hx206_4
                try clear p2
                try clear p205
                try clear p206
                try clear q205
                try clear q206
                obtain ⟨kq, x65_6, rfl, HA, HJ6, BK207, BK208, HB⟩ := hcut
                cases kq with
                | zero => exact absurd HA.out (by simp [lunetteref20_Same.j1])
                | succ kj6 =>
                  have H := HA.out
                  clear HA
                  simp only [lunetteref20_Same.j1] at H
                  by_cases c41 : x65_6 = true
                  · subst c41
                    have H1 : (some false) = some r := by rw [if_pos rfl] at H; exact H
                    clear H
                    have H := H1
                    clear H1
                    obtain rfl := Option.some.inj H
                    go_wp2
                    go_ret
                    exact ⟨by first | rfl | (simp [errW_none, errW_some] <;> rfl) | (simp [*, errW_none, errW_some] <;> rfl), by repeat (first | (with_reducible first | exact HB.out | apply below_alloc | apply pw_below_drewN | apply below_drew1 | refine below_set ?_ GE207.out | refine below_set ?_ GE208.out) | exact HB.out)⟩
                  · replace c41 := Bool.eq_false_iff.mpr c41
                    subst c41
                    have H1 : (lunetteref20_Same.l1 kj6 l0 l1 x5_1 0 ((rd_T29 l0 x5_1).f0) ((rd_T29 l0 x5_1).f1) ((rd_T29 l0 x5_1).f2) ((rd_T29 l0 x5_1).f3) ((rd_T29 l0 x5_1).f4) ((rd_T29 l1 x5_1).f0) ((rd_T29 l1 x5_1).f1) ((rd_T29 l1 x5_1).f2) ((rd_T29 l1 x5_1).f3) ((rd_T29 l1 x5_1).f4)) = some r := by rw [if_neg (show ¬ (false = true) by decide)] at H; exact H
                    clear H
                    have H := H1
                    clear H1
                    have H' := Aside0.mk H
                    clear H
                    go_wp2
                    go_loopg [8] kj6 (fun kq v8 w' => ∃ (x8_3 : Int), v8 = .int .i64 x8_3 ∧ Aside0 (lunetteref20_Same.l1 kq l0 l1 x5_1 x8_3 ((rd_T29 l0 x5_1).f0) ((rd_T29 l0 x5_1).f1) ((rd_T29 l0 x5_1).f2) ((rd_T29 l0 x5_1).f3) ((rd_T29 l0 x5_1).f4) ((rd_T29 l1 x5_1).f0) ((rd_T29 l1 x5_1).f1) ((rd_T29 l1 x5_1).f2) ((rd_T29 l1 x5_1).f3) ((rd_T29 l1 x5_1).f4) = some r) ∧ Aside0 (kq ≤ kj6) ∧ Aside0 (w'.heap[gb207]? = some (.cells #[.string ((rd_T29 l0 x5_1).f0), (.slice A205_1 ((rd_T29 l0 x5_1).f1).length c205_1), (.slice A205_2 ((rd_T29 l0 x5_1).f2).length c205_2), .string ((rd_T29 l0 x5_1).f3), .string ((rd_T29 l0 x5_1).f4)] 29 (0, 0))) ∧ Aside0 (w'.heap[gb208]? = some (.cells #[.string ((rd_T29 l1 x5_1).f0), (.slice A206_1 ((rd_T29 l1 x5_1).f1).length c206_1), (.slice A206_2 ((rd_T29 l1 x5_1).f2).length c206_2), .string ((rd_T29 l1 x5_1).f3), .string ((rd_T29 l1 x5_1).f4)] 29 (0, 0))) ∧ Aside0 (Below w.heap.size w w'))
                    case atStart => exact ⟨(0), (by first | rfl | (simp; done) | (simp [*]; done)), H', ⟨Nat.le_refl _⟩, ⟨by (with_reducible repeat (first | refine blk_drewN ?_ _ | refine blk_drew ?_ | refine blk_alloc ?_ _)); exact BK207.out⟩, ⟨by (with_reducible repeat (first | refine blk_drewN ?_ _ | refine blk_drew ?_ | refine blk_alloc ?_ _)); exact BK208.out⟩, ⟨by repeat (first | (with_reducible first | exact HB.out | apply below_alloc | apply pw_below_drewN | apply below_drew1 | refine below_set ?_ GE207.out | refine below_set ?_ GE208.out) | exact HB.out)⟩⟩
                    case round =>
                      clear H'
                      try clear c1
                      try clear c2
                      try clear p2
                      try clear q2
                      try clear hx2
                      try clear c3
                      try clear c3b0
                      try clear c3b1
                      try clear c3b2
                      try clear c4
                      try clear c4b0
                      try clear c5
                      try clear c5b0
                      try clear c6
                      try clear c6b0
                      try clear c15
                      try clear c20
                      try clear p20
                      try clear q20
                      try clear hx20
                      try clear c22
                      try clear c22b0
                      try clear c22b1
                      try clear c23
                      try clear c23b0
                      try clear c23b1
                      try clear c24
                      try clear c24b0
                      try clear c24b1
                      try clear c25
                      try clear c25b0
                      try clear c25b1
                      try clear c25b2
                      try clear c26
                      try clear c29
                      try clear c32
                      try clear c35
                      try clear c38
                      try clear c41
                      try clear hcz27_0
                      try clear hcz27_1
                      try clear hcz27_2
                      try clear hcz27_3
                      try clear hcz27_4
                      try clear hcz28_0
                      try clear hcz28_1
                      try clear hcz28_2
                      try clear hcz28_3
                      try clear hcz28_4
                      try clear hcz30_0
                      try clear hcz30_1
                      try clear hcz30_2
                      try clear hcz30_3
                      try clear hcz30_4
                      try clear hcz31_0
                      try clear hcz31_1
                      try clear hcz31_2
                      try clear hcz31_3
                      try clear hcz31_4
                      try clear hcz33_0
                      try clear hcz33_1
                      try clear hcz33_2
                      try clear hcz33_3
                      try clear hcz33_4
                      try clear hcz34_0
                      try clear hcz34_1
                      try clear hcz34_2
                      try clear hcz34_3
                      try clear hcz34_4
                      try clear hcz36_0
                      try clear hcz36_1
                      try clear hcz36_2
                      try clear hcz36_3
                      try clear hcz36_4
                      try clear hcz37_0
                      try clear hcz37_1
                      try clear hcz37_2
                      try clear hcz37_3
                      try clear hcz37_4
                      try clear hcz39_0
                      try clear hcz39_1
                      try clear hcz39_2
                      try clear hcz39_3
                      try clear hcz39_4
                      try clear hcz40_0
                      try clear hcz40_1
                      try clear hcz40_2
                      try clear hcz40_3
                      try clear hcz40_4
                      try clear hfz27_0
                      try clear hfz27_1
                      try clear hfz27_2
                      try clear hfz27_3
                      try clear hfz27_4
                      try clear hfz28_0
                      try clear hfz28_1
                      try clear hfz28_2
                      try clear hfz28_3
                      try clear hfz28_4
                      try clear hfz30_0
                      try clear hfz30_1
                      try clear hfz30_2
                      try clear hfz30_3
                      try clear hfz30_4
                      try clear hfz31_0
                      try clear hfz31_1
                      try clear hfz31_2
                      try clear hfz31_3
                      try clear hfz31_4
                      try clear hfz33_0
                      try clear hfz33_1
                      try clear hfz33_2
                      try clear hfz33_3
                      try clear hfz33_4
                      try clear hfz34_0
                      try clear hfz34_1
                      try clear hfz34_2
                      try clear hfz34_3
                      try clear hfz34_4
                      try clear hfz36_0
                      try clear hfz36_1
                      try clear hfz36_2
                      try clear hfz36_3
                      try clear hfz36_4
                      try clear hfz37_0
                      try clear hfz37_1
                      try clear hfz37_2
                      try clear hfz37_3
                      try clear hfz37_4
                      try clear hfz39_0
                      try clear hfz39_1
                      try clear hfz39_2
                      try clear hfz39_3
                      try clear hfz39_4
                      try clear hfz40_0
                      try clear hfz40_1
                      try clear hfz40_2
                      try clear hfz40_3
                      try clear hfz40_4
                      try clear hx205_0
                      try clear hx205_1
                      try clear hx205_2
                      try clear hx205_3
                      try clear hx205_4
                      try clear hx206_0
                      try clear hx206_1
                      try clear hx206_2
                      try clear hx206_3
                      try clear hx206_4
                      try clear p2
                      try clear p20
                      try clear p205
                      try clear p206
                      try clear q2
                      try clear q20
                      try clear q205
                      try clear q206
                      obtain ⟨x8_3, rfl, HA, HK3, BK207, BK208, HB⟩ := hrel
                      cases gk with
                      | zero => exact absurd HA.out (by simp [lunetteref20_Same.l1])
                      | succ k3 =>
                        have H := HA.out
                        clear HA
                        simp only [lunetteref20_Same.l1] at H
                        by_cases c42 : x8_3 < (((rd_T29 l0 x5_1).f1).length : Int)
                        · rw [if_pos c42] at H
                          have c42b0 : decide (x8_3 < (((rd_T29 l0 x5_1).f1).length : Int)) = true := decide_eq_true c42
                          clear c42
                          by_cases c43 : 0 ≤ x8_3
                          · rw [if_pos c43] at H
                            have c43b0 : decide (0 ≤ x8_3) = true := decide_eq_true c43
                            clear c43
                            by_cases c44 : x8_3 < (((rd_T29 l1 x5_1).f1).length : Int)
                            · rw [if_pos c44] at H
                              have c44b0 : decide (x8_3 < (((rd_T29 l1 x5_1).f1).length : Int)) = true := decide_eq_true c44
                              clear c44
                              by_cases c45 : (rd ((rd_T29 l0 x5_1).f1) x8_3) = (rd ((rd_T29 l1 x5_1).f1) x8_3)
                              · rw [if_pos c45] at H
                                have c45b0 : ((rd ((rd_T29 l0 x5_1).f1) x8_3) == (rd ((rd_T29 l1 x5_1).f1) x8_3)) = true := beq_iff_eq.mpr c45
                                have c45b1 : ((rd ((rd_T29 l0 x5_1).f1) x8_3) != (rd ((rd_T29 l1 x5_1).f1) x8_3)) = false := bne_eq_false_iff_eq.mpr c45
                                clear c45
                                have H' := Aside0.mk H
                                clear H
                                have hnb46 := NB207_208.out
                                have hnc46 := NB208_207.out
                                have hcz47_0 : wr.cell? ⟨gb207, 0, none⟩ = some (.string ((rd_T29 l0 x5_1).f0)) := (blk_cell BK207.out 0).trans rfl
                                have hcz47_1 : wr.cell? ⟨gb207, 1, none⟩ = some (.slice A205_1 ((rd_T29 l0 x5_1).f1).length c205_1) := (blk_cell BK207.out 1).trans rfl
                                have hcz47_2 : wr.cell? ⟨gb207, 2, none⟩ = some (.slice A205_2 ((rd_T29 l0 x5_1).f2).length c205_2) := (blk_cell BK207.out 2).trans rfl
                                have hcz47_3 : wr.cell? ⟨gb207, 3, none⟩ = some (.string ((rd_T29 l0 x5_1).f3)) := (blk_cell BK207.out 3).trans rfl
                                have hcz47_4 : wr.cell? ⟨gb207, 4, none⟩ = some (.string ((rd_T29 l0 x5_1).f4)) := (blk_cell BK207.out 4).trans rfl
                                have hfz47_0 := blk_frozen BK207.out 0
                                have hfz47_1 := blk_frozen BK207.out 1
                                have hfz47_2 := blk_frozen BK207.out 2
                                have hfz47_3 := blk_frozen BK207.out 3
                                have hfz47_4 := blk_frozen BK207.out 4
                                try go_wp2
                                have n0_ := Aside0.mk (blk_drew BK207.out)
                                have n1_ := Aside0.mk (blk_drew BK208.out)
                                have n2_ := Aside0.mk (below_drew1 HB.out)
                                clear BK207
                                clear BK208
                                clear HB
                                have BK207 := n0_
                                have BK208 := n1_
                                have HB := n2_
                                clear n0_ n1_ n2_
                                have p209 : 0 ≤ (x8_3 : Int) := of_decide_eq_true (by first | (with_reducible assumption) | assumption)
                                have q209 : x8_3 < (((rd_T29 l0 x5_1).f1).length : Int) := of_decide_eq_true (by first | (with_reducible assumption) | assumption)
                                obtain ⟨ad209, e209, hx209_0⟩ := Kd.at_int HR205_1.out x8_3 p209 q209
                                have hw209_0 := hx209_0
                                cases e209
                                replace hx209_0 := (HB.out.cell (World.block_lt_of_cell? w _ hx209_0)).trans hx209_0
                                replace p209 := eq_true p209
                                replace q209 := eq_true q209
                                have p210 : 0 ≤ (x8_3 : Int) := of_decide_eq_true (by first | (with_reducible assumption) | assumption)
                                have q210 : x8_3 < (((rd_T29 l1 x5_1).f1).length : Int) := of_decide_eq_true (by first | (with_reducible assumption) | assumption)
                                obtain ⟨ad210, e210, hx210_0⟩ := Kd.at_int HR206_1.out x8_3 p210 q210
                                have hw210_0 := hx210_0
                                cases e210
                                replace hx210_0 := (HB.out.cell (World.block_lt_of_cell? w _ hx210_0)).trans hx210_0
                                replace p210 := eq_true p210
                                replace q210 := eq_true q210
                                refine start_ (n := 11) (S := fun w' => w'.cell? ⟨gb207, 0, none⟩ = some (.string ((rd_T29 l0 x5_1).f0)) ∧ w'.cell? ⟨gb207, 1, none⟩ = some (.slice (some ad209) ((rd_T29 l0 x5_1).f1).length c205_1) ∧ w'.cell? ⟨gb207, 2, none⟩ = some (.slice A205_2 ((rd_T29 l0 x5_1).f2).length c205_2) ∧ w'.cell? ⟨gb207, 3, none⟩ = some (.string ((rd_T29 l0 x5_1).f3)) ∧ w'.cell? ⟨gb207, 4, none⟩ = some (.string ((rd_T29 l0 x5_1).f4)) ∧ w'.cell? ⟨gb208, 0, none⟩ = some (.string ((rd_T29 l1 x5_1).f0)) ∧ w'.cell? ⟨gb208, 1, none⟩ = some (.slice (some ad210) ((rd_T29 l1 x5_1).f1).length c206_1) ∧ w'.cell? ⟨gb208, 2, none⟩ = some (.slice A206_2 ((rd_T29 l1 x5_1).f2).length c206_2) ∧ w'.cell? ⟨gb208, 3, none⟩ = some (.string ((rd_T29 l1 x5_1).f3)) ∧ w'.cell? ⟨gb208, 4, none⟩ = some (.string ((rd_T29 l1 x5_1).f4)) ∧ w'.cell? (ad209.add (x8_3).toNat) = some (.int .i64 (rd ((rd_T29 l0 x5_1).f1) x8_3)) ∧ w'.cell? (ad210.add (x8_3).toNat) = some (.int .i64 (rd ((rd_T29 l1 x5_1).f1) x8_3))) (ds := []) #[false, false, false, false, false, false, false, false, false, false, false] (by kernel_rfl) rfl rfl ⟨(blk_cell BK207.out 0).trans rfl, (blk_cell BK207.out 1).trans rfl, (blk_cell BK207.out 2).trans rfl, (blk_cell BK207.out 3).trans rfl, (blk_cell BK207.out 4).trans rfl, (blk_cell BK208.out 0).trans rfl, (blk_cell BK208.out 1).trans rfl, (blk_cell BK208.out 2).trans rfl, (blk_cell BK208.out 3).trans rfl, (blk_cell BK208.out 4).trans rfl, ((HB.out.cell (World.block_lt_of_cell? w _ hw209_0)).trans hw209_0), ((HB.out.cell (World.block_lt_of_cell? w _ hw210_0)).trans hw210_0)⟩ (fun hHeld => ?_); refine with_tabW lunetteref20_Same.tab12 lunetteref20_Same.bits12 (fun HT_ HW_ => ?_)
                                generalize wr.drew = w48 at BK207 BK208 HB hx209_0 hx210_0 hHeld ⊢
                                refine pure_ (i := 0) (N := some 73) (v := ?_) (a' := ?_) #[true, false, false, false, false, false, false, false, false, false, false] rfl rfl (any_of HT_.out (by kernel_rfl)) (fun _ _ _ h => h) (Or.inl ⟨by rfl, ?_⟩) ?_ ?_
                                rotate_left
                                · intro w'
                                  go_simp
                                  with_reducible rfl
                                rotate_left
                                · simp only [Act.put, List.setIfInBounds_toArray, List.set_cons_zero, List.set_cons_succ, i64_w, i32_w]
                                  rfl
                                refine pure_ (i := 2) (N := some 75) (v := ?_) (a' := ?_) #[true, false, true, false, false, false, false, false, false, false, false] rfl rfl (any_of HT_.out (by kernel_rfl)) (fun _ _ _ h => h) (Or.inl ⟨by rfl, ?_⟩) ?_ ?_
                                rotate_left
                                · intro w'
                                  go_simp
                                  with_reducible rfl
                                rotate_left
                                · simp only [Act.put, List.setIfInBounds_toArray, List.set_cons_zero, List.set_cons_succ, i64_w, i32_w]
                                  rfl
                                refine pure_ (i := 5) (N := some 78) (v := ?_) (a' := ?_) #[true, false, true, false, false, true, false, false, false, false, false] rfl rfl (any_of HT_.out (by kernel_rfl)) (fun _ _ _ h => h) (Or.inl ⟨by rfl, ?_⟩) ?_ ?_
                                rotate_left
                                · intro w'
                                  go_simp
                                  with_reducible rfl
                                rotate_left
                                · simp only [Act.put, List.setIfInBounds_toArray, List.set_cons_zero, List.set_cons_succ, i64_w, i32_w]
                                  rfl
                                refine pure_ (i := 7) (N := some 80) (v := ?_) (a' := ?_) #[true, false, true, false, false, true, false, true, false, false, false] rfl rfl (any_of HT_.out (by kernel_rfl)) (fun _ _ _ h => h) (Or.inl ⟨by rfl, ?_⟩) ?_ ?_
                                rotate_left
                                · intro w'
                                  go_simp
                                  with_reducible rfl
                                rotate_left
                                · simp only [Act.put, List.setIfInBounds_toArray, List.set_cons_zero, List.set_cons_succ, i64_w, i32_w]
                                  rfl
                                refine take_ (i := 1) (N := some 74) (v := ?_) (a' := ?_) #[true, true, true, false, false, true, false, true, false, false, false] rfl rfl (take_ofW HT_.out HW_.out (by kernel_rfl)) (fun _ _ _ h => h) (Or.inl ⟨by rfl, ?_⟩) hHeld ?_ ?_
                                rotate_left
                                · rintro w' ⟨s0, s1, s2, s3, s4, s5, s6, s7, s8, s9, s10, s11⟩
                                  go_simp
                                  with_reducible rfl
                                rotate_left
                                · simp only [Act.put, List.setIfInBounds_toArray, List.set_cons_zero, List.set_cons_succ, i64_w, i32_w]
                                  rfl
                                refine pure_ (i := 3) (N := some 76) (v := ?_) (a' := ?_) #[true, true, true, true, false, true, false, true, false, false, false] rfl rfl (any_of HT_.out (by kernel_rfl)) (fun _ _ _ h => h) (Or.inl ⟨by rfl, ?_⟩) ?_ ?_
                                rotate_left
                                · intro w'
                                  go_simp
                                  with_reducible rfl
                                rotate_left
                                · simp only [Act.put, List.setIfInBounds_toArray, List.set_cons_zero, List.set_cons_succ, i64_w, i32_w]
                                  rfl
                                refine take_ (i := 4) (N := some 77) (v := ?_) (a' := ?_) #[true, true, true, true, true, true, false, true, false, false, false] rfl rfl (take_ofW HT_.out HW_.out (by kernel_rfl)) (fun _ _ _ h => h) (Or.inl ⟨by rfl, ?_⟩) hHeld ?_ ?_
                                rotate_left
                                · rintro w' ⟨s0, s1, s2, s3, s4, s5, s6, s7, s8, s9, s10, s11⟩
                                  go_simp
                                  with_reducible rfl
                                rotate_left
                                · simp only [Act.put, List.setIfInBounds_toArray, List.set_cons_zero, List.set_cons_succ, i64_w, i32_w]
                                  rfl
                                refine take_ (i := 6) (N := some 79) (v := ?_) (a' := ?_) #[true, true, true, true, true, true, true, true, false, false, false] rfl rfl (take_ofW HT_.out HW_.out (by kernel_rfl)) (fun _ _ _ h => h) (Or.inl ⟨by rfl, ?_⟩) hHeld ?_ ?_
                                rotate_left
                                · rintro w' ⟨s0, s1, s2, s3, s4, s5, s6, s7, s8, s9, s10, s11⟩
                                  go_simp
                                  with_reducible rfl
                                rotate_left
                                · simp only [Act.put, List.setIfInBounds_toArray, List.set_cons_zero, List.set_cons_succ, i64_w, i32_w]
                                  rfl
                                refine pure_ (i := 8) (N := some 81) (v := ?_) (a' := ?_) #[true, true, true, true, true, true, true, true, true, false, false] rfl rfl (any_of HT_.out (by kernel_rfl)) (fun _ _ _ h => h) (Or.inl ⟨by rfl, ?_⟩) ?_ ?_
                                rotate_left
                                · intro w'
                                  go_simp
                                  with_reducible rfl
                                rotate_left
                                · simp only [Act.put, List.setIfInBounds_toArray, List.set_cons_zero, List.set_cons_succ, i64_w, i32_w]
                                  rfl
                                refine take_ (i := 9) (N := some 82) (v := ?_) (a' := ?_) #[true, true, true, true, true, true, true, true, true, true, false] rfl rfl (take_ofW HT_.out HW_.out (by kernel_rfl)) (fun _ _ _ h => h) (Or.inl ⟨by rfl, ?_⟩) hHeld ?_ ?_
                                rotate_left
                                · rintro w' ⟨s0, s1, s2, s3, s4, s5, s6, s7, s8, s9, s10, s11⟩
                                  go_simp
                                  with_reducible rfl
                                rotate_left
                                · simp only [Act.put, List.setIfInBounds_toArray, List.set_cons_zero, List.set_cons_succ, i64_w, i32_w]
                                  rfl
                                refine pure_ (i := 10) (N := some 83) (v := ?_) (a' := ?_) #[true, true, true, true, true, true, true, true, true, true, true] rfl rfl (any_of HT_.out (by kernel_rfl)) (fun _ _ _ h => h) (Or.inl ⟨by rfl, ?_⟩) ?_ ?_
                                rotate_left
                                · intro w'
                                  go_simp
                                  with_reducible rfl
                                rotate_left
                                · simp only [Act.put, List.setIfInBounds_toArray, List.set_cons_zero, List.set_cons_succ, i64_w, i32_w]
                                  rfl
                                refine done_ (done_of HT_.out (by kernel_rfl)) ?_
                                try go_wp2
                                go_roundg k3
                                case measure => have := HK1.out; have := HJ6.out; have := HK3.out; omega
                                case rel => exact ⟨(wrap64 (x8_3 + 1)), (by first | rfl | (simp; done) | (simp [*]; done)), H', ⟨by have := HK1.out; have := HJ6.out; have := HK3.out; omega⟩, ⟨by (with_reducible repeat (first | refine blk_drewN ?_ _ | refine blk_drew ?_ | refine blk_alloc ?_ _)); exact BK207.out⟩, ⟨by (with_reducible repeat (first | refine blk_drewN ?_ _ | refine blk_drew ?_ | refine blk_alloc ?_ _)); exact BK208.out⟩, ⟨by repeat (first | (with_reducible first | exact HB.out | apply below_alloc | apply pw_below_drewN | apply below_drew1 | refine below_set ?_ GE207.out | refine below_set ?_ GE208.out) | exact HB.out)⟩⟩
                              · rw [if_neg c45] at H
                                have c45b0 : ((rd ((rd_T29 l0 x5_1).f1) x8_3) == (rd ((rd_T29 l1 x5_1).f1) x8_3)) = false := beq_eq_false_iff_ne.mpr c45
                                have c45b1 : ((rd ((rd_T29 l0 x5_1).f1) x8_3) != (rd ((rd_T29 l1 x5_1).f1) x8_3)) = true := bne_iff_ne.mpr c45
                                obtain rfl := Option.some.inj H
                                have hnb49 := NB207_208.out
                                have hnc49 := NB208_207.out
                                have hcz50_0 : wr.cell? ⟨gb207, 0, none⟩ = some (.string ((rd_T29 l0 x5_1).f0)) := (blk_cell BK207.out 0).trans rfl
                                have hcz50_1 : wr.cell? ⟨gb207, 1, none⟩ = some (.slice A205_1 ((rd_T29 l0 x5_1).f1).length c205_1) := (blk_cell BK207.out 1).trans rfl
                                have hcz50_2 : wr.cell? ⟨gb207, 2, none⟩ = some (.slice A205_2 ((rd_T29 l0 x5_1).f2).length c205_2) := (blk_cell BK207.out 2).trans rfl
                                have hcz50_3 : wr.cell? ⟨gb207, 3, none⟩ = some (.string ((rd_T29 l0 x5_1).f3)) := (blk_cell BK207.out 3).trans rfl
                                have hcz50_4 : wr.cell? ⟨gb207, 4, none⟩ = some (.string ((rd_T29 l0 x5_1).f4)) := (blk_cell BK207.out 4).trans rfl
                                have hfz50_0 := blk_frozen BK207.out 0
                                have hfz50_1 := blk_frozen BK207.out 1
                                have hfz50_2 := blk_frozen BK207.out 2
                                have hfz50_3 := blk_frozen BK207.out 3
                                have hfz50_4 := blk_frozen BK207.out 4
                                try go_wp2
                                have n0_ := Aside0.mk (blk_drew BK207.out)
                                have n1_ := Aside0.mk (blk_drew BK208.out)
                                have n2_ := Aside0.mk (below_drew1 HB.out)
                                clear BK207
                                clear BK208
                                clear HB
                                have BK207 := n0_
                                have BK208 := n1_
                                have HB := n2_
                                clear n0_ n1_ n2_
                                have p209 : 0 ≤ (x8_3 : Int) := of_decide_eq_true (by first | (with_reducible assumption) | assumption)
                                have q209 : x8_3 < (((rd_T29 l0 x5_1).f1).length : Int) := of_decide_eq_true (by first | (with_reducible assumption) | assumption)
                                obtain ⟨ad209, e209, hx209_0⟩ := Kd.at_int HR205_1.out x8_3 p209 q209
                                have hw209_0 := hx209_0
                                cases e209
                                replace hx209_0 := (HB.out.cell (World.block_lt_of_cell? w _ hx209_0)).trans hx209_0
                                replace p209 := eq_true p209
                                replace q209 := eq_true q209
                                have p210 : 0 ≤ (x8_3 : Int) := of_decide_eq_true (by first | (with_reducible assumption) | assumption)
                                have q210 : x8_3 < (((rd_T29 l1 x5_1).f1).length : Int) := of_decide_eq_true (by first | (with_reducible assumption) | assumption)
                                obtain ⟨ad210, e210, hx210_0⟩ := Kd.at_int HR206_1.out x8_3 p210 q210
                                have hw210_0 := hx210_0
                                cases e210
                                replace hx210_0 := (HB.out.cell (World.block_lt_of_cell? w _ hx210_0)).trans hx210_0
                                replace p210 := eq_true p210
                                replace q210 := eq_true q210
                                refine start_ (n := 11) (S := fun w' => w'.cell? ⟨gb207, 0, none⟩ = some (.string ((rd_T29 l0 x5_1).f0)) ∧ w'.cell? ⟨gb207, 1, none⟩ = some (.slice (some ad209) ((rd_T29 l0 x5_1).f1).length c205_1) ∧ w'.cell? ⟨gb207, 2, none⟩ = some (.slice A205_2 ((rd_T29 l0 x5_1).f2).length c205_2) ∧ w'.cell? ⟨gb207, 3, none⟩ = some (.string ((rd_T29 l0 x5_1).f3)) ∧ w'.cell? ⟨gb207, 4, none⟩ = some (.string ((rd_T29 l0 x5_1).f4)) ∧ w'.cell? ⟨gb208, 0, none⟩ = some (.string ((rd_T29 l1 x5_1).f0)) ∧ w'.cell? ⟨gb208, 1, none⟩ = some (.slice (some ad210) ((rd_T29 l1 x5_1).f1).length c206_1) ∧ w'.cell? ⟨gb208, 2, none⟩ = some (.slice A206_2 ((rd_T29 l1 x5_1).f2).length c206_2) ∧ w'.cell? ⟨gb208, 3, none⟩ = some (.string ((rd_T29 l1 x5_1).f3)) ∧ w'.cell? ⟨gb208, 4, none⟩ = some (.string ((rd_T29 l1 x5_1).f4)) ∧ w'.cell? (ad209.add (x8_3).toNat) = some (.int .i64 (rd ((rd_T29 l0 x5_1).f1) x8_3)) ∧ w'.cell? (ad210.add (x8_3).toNat) = some (.int .i64 (rd ((rd_T29 l1 x5_1).f1) x8_3))) (ds := []) #[false, false, false, false, false, false, false, false, false, false, false] (by kernel_rfl) rfl rfl ⟨(blk_cell BK207.out 0).trans rfl, (blk_cell BK207.out 1).trans rfl, (blk_cell BK207.out 2).trans rfl, (blk_cell BK207.out 3).trans rfl, (blk_cell BK207.out 4).trans rfl, (blk_cell BK208.out 0).trans rfl, (blk_cell BK208.out 1).trans rfl, (blk_cell BK208.out 2).trans rfl, (blk_cell BK208.out 3).trans rfl, (blk_cell BK208.out 4).trans rfl, ((HB.out.cell (World.block_lt_of_cell? w _ hw209_0)).trans hw209_0), ((HB.out.cell (World.block_lt_of_cell? w _ hw210_0)).trans hw210_0)⟩ (fun hHeld => ?_); refine with_tabW lunetteref20_Same.tab12 lunetteref20_Same.bits12 (fun HT_ HW_ => ?_)
                                generalize wr.drew = w51 at BK207 BK208 HB hx209_0 hx210_0 hHeld ⊢
                                refine pure_ (i := 0) (N := some 73) (v := ?_) (a' := ?_) #[true, false, false, false, false, false, false, false, false, false, false] rfl rfl (any_of HT_.out (by kernel_rfl)) (fun _ _ _ h => h) (Or.inl ⟨by rfl, ?_⟩) ?_ ?_
                                rotate_left
                                · intro w'
                                  go_simp
                                  with_reducible rfl
                                rotate_left
                                · simp only [Act.put, List.setIfInBounds_toArray, List.set_cons_zero, List.set_cons_succ, i64_w, i32_w]
                                  rfl
                                refine pure_ (i := 2) (N := some 75) (v := ?_) (a' := ?_) #[true, false, true, false, false, false, false, false, false, false, false] rfl rfl (any_of HT_.out (by kernel_rfl)) (fun _ _ _ h => h) (Or.inl ⟨by rfl, ?_⟩) ?_ ?_
                                rotate_left
                                · intro w'
                                  go_simp
                                  with_reducible rfl
                                rotate_left
                                · simp only [Act.put, List.setIfInBounds_toArray, List.set_cons_zero, List.set_cons_succ, i64_w, i32_w]
                                  rfl
                                refine pure_ (i := 5) (N := some 78) (v := ?_) (a' := ?_) #[true, false, true, false, false, true, false, false, false, false, false] rfl rfl (any_of HT_.out (by kernel_rfl)) (fun _ _ _ h => h) (Or.inl ⟨by rfl, ?_⟩) ?_ ?_
                                rotate_left
                                · intro w'
                                  go_simp
                                  with_reducible rfl
                                rotate_left
                                · simp only [Act.put, List.setIfInBounds_toArray, List.set_cons_zero, List.set_cons_succ, i64_w, i32_w]
                                  rfl
                                refine pure_ (i := 7) (N := some 80) (v := ?_) (a' := ?_) #[true, false, true, false, false, true, false, true, false, false, false] rfl rfl (any_of HT_.out (by kernel_rfl)) (fun _ _ _ h => h) (Or.inl ⟨by rfl, ?_⟩) ?_ ?_
                                rotate_left
                                · intro w'
                                  go_simp
                                  with_reducible rfl
                                rotate_left
                                · simp only [Act.put, List.setIfInBounds_toArray, List.set_cons_zero, List.set_cons_succ, i64_w, i32_w]
                                  rfl
                                refine take_ (i := 1) (N := some 74) (v := ?_) (a' := ?_) #[true, true, true, false, false, true, false, true, false, false, false] rfl rfl (take_ofW HT_.out HW_.out (by kernel_rfl)) (fun _ _ _ h => h) (Or.inl ⟨by rfl, ?_⟩) hHeld ?_ ?_
                                rotate_left
                                · rintro w' ⟨s0, s1, s2, s3, s4, s5, s6, s7, s8, s9, s10, s11⟩
                                  go_simp
                                  with_reducible rfl
                                rotate_left
                                · simp only [Act.put, List.setIfInBounds_toArray, List.set_cons_zero, List.set_cons_succ, i64_w, i32_w]
                                  rfl
                                refine pure_ (i := 3) (N := some 76) (v := ?_) (a' := ?_) #[true, true, true, true, false, true, false, true, false, false, false] rfl rfl (any_of HT_.out (by kernel_rfl)) (fun _ _ _ h => h) (Or.inl ⟨by rfl, ?_⟩) ?_ ?_
                                rotate_left
                                · intro w'
                                  go_simp
                                  with_reducible rfl
                                rotate_left
                                · simp only [Act.put, List.setIfInBounds_toArray, List.set_cons_zero, List.set_cons_succ, i64_w, i32_w]
                                  rfl
                                refine take_ (i := 4) (N := some 77) (v := ?_) (a' := ?_) #[true, true, true, true, true, true, false, true, false, false, false] rfl rfl (take_ofW HT_.out HW_.out (by kernel_rfl)) (fun _ _ _ h => h) (Or.inl ⟨by rfl, ?_⟩) hHeld ?_ ?_
                                rotate_left
                                · rintro w' ⟨s0, s1, s2, s3, s4, s5, s6, s7, s8, s9, s10, s11⟩
                                  go_simp
                                  with_reducible rfl
                                rotate_left
                                · simp only [Act.put, List.setIfInBounds_toArray, List.set_cons_zero, List.set_cons_succ, i64_w, i32_w]
                                  rfl
                                refine take_ (i := 6) (N := some 79) (v := ?_) (a' := ?_) #[true, true, true, true, true, true, true, true, false, false, false] rfl rfl (take_ofW HT_.out HW_.out (by kernel_rfl)) (fun _ _ _ h => h) (Or.inl ⟨by rfl, ?_⟩) hHeld ?_ ?_
                                rotate_left
                                · rintro w' ⟨s0, s1, s2, s3, s4, s5, s6, s7, s8, s9, s10, s11⟩
                                  go_simp
                                  with_reducible rfl
                                rotate_left
                                · simp only [Act.put, List.setIfInBounds_toArray, List.set_cons_zero, List.set_cons_succ, i64_w, i32_w]
                                  rfl
                                refine pure_ (i := 8) (N := some 81) (v := ?_) (a' := ?_) #[true, true, true, true, true, true, true, true, true, false, false] rfl rfl (any_of HT_.out (by kernel_rfl)) (fun _ _ _ h => h) (Or.inl ⟨by rfl, ?_⟩) ?_ ?_
                                rotate_left
                                · intro w'
                                  go_simp
                                  with_reducible rfl
                                rotate_left
                                · simp only [Act.put, List.setIfInBounds_toArray, List.set_cons_zero, List.set_cons_succ, i64_w, i32_w]
                                  rfl
                                refine take_ (i := 9) (N := some 82) (v := ?_) (a' := ?_) #[true, true, true, true, true, true, true, true, true, true, false] rfl rfl (take_ofW HT_.out HW_.out (by kernel_rfl)) (fun _ _ _ h => h) (Or.inl ⟨by rfl, ?_⟩) hHeld ?_ ?_
                                rotate_left
                                · rintro w' ⟨s0, s1, s2, s3, s4, s5, s6, s7, s8, s9, s10, s11⟩
                                  go_simp
                                  with_reducible rfl
                                rotate_left
                                · simp only [Act.put, List.setIfInBounds_toArray, List.set_cons_zero, List.set_cons_succ, i64_w, i32_w]
                                  rfl
                                refine pure_ (i := 10) (N := some 83) (v := ?_) (a' := ?_) #[true, true, true, true, true, true, true, true, true, true, true] rfl rfl (any_of HT_.out (by kernel_rfl)) (fun _ _ _ h => h) (Or.inl ⟨by rfl, ?_⟩) ?_ ?_
                                rotate_left
                                · intro w'
                                  go_simp
                                  with_reducible rfl
                                rotate_left
                                · simp only [Act.put, List.setIfInBounds_toArray, List.set_cons_zero, List.set_cons_succ, i64_w, i32_w]
                                  rfl
                                refine done_ (done_of HT_.out (by kernel_rfl)) ?_
                                try go_wp2
                                go_ret
                                exact ⟨by first | rfl | (simp [errW_none, errW_some] <;> rfl) | (simp [*, errW_none, errW_some] <;> rfl), by repeat (first | (with_reducible first | exact HB.out | apply below_alloc | apply pw_below_drewN | apply below_drew1 | refine below_set ?_ GE207.out | refine below_set ?_ GE208.out) | exact HB.out)⟩
                            · rw [if_neg c44] at H
                              exact absurd H (by simp)
                          · rw [if_neg c43] at H
                            exact absurd H (by simp)
                        · rw [if_neg c42] at H
                          have c42b0 : decide (x8_3 < (((rd_T29 l0 x5_1).f1).length : Int)) = false := decide_eq_false c42
                          clear c42
                          have H' := Aside0.mk H
                          clear H
                          have hnb52 := NB207_208.out
                          have hnc52 := NB208_207.out
                          have hcz53_0 : wr.cell? ⟨gb207, 0, none⟩ = some (.string ((rd_T29 l0 x5_1).f0)) := (blk_cell BK207.out 0).trans rfl
                          have hcz53_1 : wr.cell? ⟨gb207, 1, none⟩ = some (.slice A205_1 ((rd_T29 l0 x5_1).f1).length c205_1) := (blk_cell BK207.out 1).trans rfl
                          have hcz53_2 : wr.cell? ⟨gb207, 2, none⟩ = some (.slice A205_2 ((rd_T29 l0 x5_1).f2).length c205_2) := (blk_cell BK207.out 2).trans rfl
                          have hcz53_3 : wr.cell? ⟨gb207, 3, none⟩ = some (.string ((rd_T29 l0 x5_1).f3)) := (blk_cell BK207.out 3).trans rfl
                          have hcz53_4 : wr.cell? ⟨gb207, 4, none⟩ = some (.string ((rd_T29 l0 x5_1).f4)) := (blk_cell BK207.out 4).trans rfl
                          have hfz53_0 := blk_frozen BK207.out 0
                          have hfz53_1 := blk_frozen BK207.out 1
                          have hfz53_2 := blk_frozen BK207.out 2
                          have hfz53_3 := blk_frozen BK207.out 3
                          have hfz53_4 := blk_frozen BK207.out 4
                          go_wp2
                          go_loopg [9] k3 (fun kq v9 w' => ∃ (x9_4 : Int), v9 = .int .i64 x9_4 ∧ Aside0 (lunetteref20_Same.l2 kq l0 l1 x5_1 x9_4 ((rd_T29 l0 x5_1).f0) ((rd_T29 l0 x5_1).f1) ((rd_T29 l0 x5_1).f2) ((rd_T29 l0 x5_1).f3) ((rd_T29 l0 x5_1).f4) ((rd_T29 l1 x5_1).f0) ((rd_T29 l1 x5_1).f1) ((rd_T29 l1 x5_1).f2) ((rd_T29 l1 x5_1).f3) ((rd_T29 l1 x5_1).f4) = some r) ∧ Aside0 (kq ≤ k3) ∧ Aside0 (w'.heap[gb207]? = some (.cells #[.string ((rd_T29 l0 x5_1).f0), (.slice A205_1 ((rd_T29 l0 x5_1).f1).length c205_1), (.slice A205_2 ((rd_T29 l0 x5_1).f2).length c205_2), .string ((rd_T29 l0 x5_1).f3), .string ((rd_T29 l0 x5_1).f4)] 29 (0, 0))) ∧ Aside0 (w'.heap[gb208]? = some (.cells #[.string ((rd_T29 l1 x5_1).f0), (.slice A206_1 ((rd_T29 l1 x5_1).f1).length c206_1), (.slice A206_2 ((rd_T29 l1 x5_1).f2).length c206_2), .string ((rd_T29 l1 x5_1).f3), .string ((rd_T29 l1 x5_1).f4)] 29 (0, 0))) ∧ Aside0 (Below w.heap.size w w'))
                          case atStart => exact ⟨(0), (by first | rfl | (simp; done) | (simp [*]; done)), H', ⟨Nat.le_refl _⟩, ⟨by (with_reducible repeat (first | refine blk_drewN ?_ _ | refine blk_drew ?_ | refine blk_alloc ?_ _)); exact BK207.out⟩, ⟨by (with_reducible repeat (first | refine blk_drewN ?_ _ | refine blk_drew ?_ | refine blk_alloc ?_ _)); exact BK208.out⟩, ⟨by repeat (first | (with_reducible first | exact HB.out | apply below_alloc | apply pw_below_drewN | apply below_drew1 | refine below_set ?_ GE207.out | refine below_set ?_ GE208.out) | exact HB.out)⟩⟩
                          case round =>
                            clear H'
                            try clear c1
                            try clear c2
                            try clear p2
                            try clear q2
                            try clear hx2
                            try clear c3
                            try clear c3b0
                            try clear c3b1
                            try clear c3b2
                            try clear c4
                            try clear c4b0
                            try clear c5
                            try clear c5b0
                            try clear c6
                            try clear c6b0
                            try clear p6
                            try clear c15
                            try clear c20
                            try clear p20
                            try clear q20
                            try clear hx20
                            try clear p21
                            try clear q21
                            try clear hx21
                            try clear c22
                            try clear c22b0
                            try clear c22b1
                            try clear c23
                            try clear c23b0
                            try clear c23b1
                            try clear c24
                            try clear c24b0
                            try clear c24b1
                            try clear c25
                            try clear c25b0
                            try clear c25b1
                            try clear c25b2
                            try clear c26
                            try clear c29
                            try clear c32
                            try clear c35
                            try clear c38
                            try clear c41
                            try clear c42
                            try clear c42b0
                            try clear c43
                            try clear c43b0
                            try clear c44
                            try clear c44b0
                            try clear c45
                            try clear c45b0
                            try clear c45b1
                            try clear c46
                            try clear c49
                            try clear c52
                            try clear hcz27_0
                            try clear hcz27_1
                            try clear hcz27_2
                            try clear hcz27_3
                            try clear hcz27_4
                            try clear hcz28_0
                            try clear hcz28_1
                            try clear hcz28_2
                            try clear hcz28_3
                            try clear hcz28_4
                            try clear hcz30_0
                            try clear hcz30_1
                            try clear hcz30_2
                            try clear hcz30_3
                            try clear hcz30_4
                            try clear hcz31_0
                            try clear hcz31_1
                            try clear hcz31_2
                            try clear hcz31_3
                            try clear hcz31_4
                            try clear hcz33_0
                            try clear hcz33_1
                            try clear hcz33_2
                            try clear hcz33_3
                            try clear hcz33_4
                            try clear hcz34_0
                            try clear hcz34_1
                            try clear hcz34_2
                            try clear hcz34_3
                            try clear hcz34_4
                            try clear hcz36_0
                            try clear hcz36_1
                            try clear hcz36_2
                            try clear hcz36_3
                            try clear hcz36_4
                            try clear hcz37_0
                            try clear hcz37_1
                            try clear hcz37_2
                            try clear hcz37_3
                            try clear hcz37_4
                            try clear hcz39_0
                            try clear hcz39_1
                            try clear hcz39_2
                            try clear hcz39_3
                            try clear hcz39_4
                            try clear hcz40_0
                            try clear hcz40_1
                            try clear hcz40_2
                            try clear hcz40_3
                            try clear hcz40_4
                            try clear hcz47_0
                            try clear hcz47_1
                            try clear hcz47_2
                            try clear hcz47_3
                            try clear hcz47_4
                            try clear hcz50_0
                            try clear hcz50_1
                            try clear hcz50_2
                            try clear hcz50_3
                            try clear hcz50_4
                            try clear hcz53_0
                            try clear hcz53_1
                            try clear hcz53_2
                            try clear hcz53_3
                            try clear hcz53_4
                            try clear hfz27_0
                            try clear hfz27_1
                            try clear hfz27_2
                            try clear hfz27_3
                            try clear hfz27_4
                            try clear hfz28_0
                            try clear hfz28_1
                            try clear hfz28_2
                            try clear hfz28_3
                            try clear hfz28_4
                            try clear hfz30_0
                            try clear hfz30_1
                            try clear hfz30_2
                            try clear hfz30_3
                            try clear hfz30_4
                            try clear hfz31_0
                            try clear hfz31_1
                            try clear hfz31_2
                            try clear hfz31_3
                            try clear hfz31_4
                            try clear hfz33_0
                            try clear hfz33_1
                            try clear hfz33_2
                            try clear hfz33_3
                            try clear hfz33_4
                            try clear hfz34_0
                            try clear hfz34_1
                            try clear hfz34_2
                            try clear hfz34_3
                            try clear hfz34_4
                            try clear hfz36_0
                            try clear hfz36_1
                            try clear hfz36_2
                            try clear hfz36_3
                            try clear hfz36_4
                            try clear hfz37_0
                            try clear hfz37_1
                            try clear hfz37_2
                            try clear hfz37_3
                            try clear hfz37_4
                            try clear hfz39_0
                            try clear hfz39_1
                            try clear hfz39_2
                            try clear hfz39_3
                            try clear hfz39_4
                            try clear hfz40_0
                            try clear hfz40_1
                            try clear hfz40_2
                            try clear hfz40_3
                            try clear hfz40_4
                            try clear hfz47_0
                            try clear hfz47_1
                            try clear hfz47_2
                            try clear hfz47_3
                            try clear hfz47_4
                            try clear hfz50_0
                            try clear hfz50_1
                            try clear hfz50_2
                            try clear hfz50_3
                            try clear hfz50_4
                            try clear hfz53_0
                            try clear hfz53_1
                            try clear hfz53_2
                            try clear hfz53_3
                            try clear hfz53_4
                            try clear hx205_0
                            try clear hx205_1
                            try clear hx205_2
                            try clear hx205_3
                            try clear hx205_4
                            try clear hx206_0
                            try clear hx206_1
                            try clear hx206_2
                            try clear hx206_3
                            try clear hx206_4
                            try clear hx209_0
                            try clear hx210_0
                            try clear p2
                            try clear p20
                            try clear p205
                            try clear p206
                            try clear p209
                            try clear p210
                            try clear q2
                            try clear q20
                            try clear q205
                            try clear q206
                            try clear q209
                            try clear q210
                            obtain ⟨x9_4, rfl, HA, HK4, BK207, BK208, HB⟩ := hrel
                            cases gk with
                            | zero => exact absurd HA.out (by simp [lunetteref20_Same.l2])
                            | succ k4 =>
                              have H := HA.out
                              clear HA
                              simp only [lunetteref20_Same.l2] at H
                              by_cases c54 : x9_4 < (((rd_T29 l0 x5_1).f2).length : Int)
                              · rw [if_pos c54] at H
                                have c54b0 : decide (x9_4 < (((rd_T29 l0 x5_1).f2).length : Int)) = true := decide_eq_true c54
                                clear c54
                                by_cases c55 : 0 ≤ x9_4
                                · rw [if_pos c55] at H
                                  have c55b0 : decide (0 ≤ x9_4) = true := decide_eq_true c55
                                  clear c55
                                  by_cases c56 : x9_4 < (((rd_T29 l1 x5_1).f2).length : Int)
                                  · rw [if_pos c56] at H
                                    have c56b0 : decide (x9_4 < (((rd_T29 l1 x5_1).f2).length : Int)) = true := decide_eq_true c56
                                    clear c56
                                    by_cases c57 : (!((((rd_T51 ((rd_T29 l0 x5_1).f2) x9_4).f0).toList) == (((rd_T51 ((rd_T29 l1 x5_1).f2) x9_4).f0).toList)) || (!((((rd_T51 ((rd_T29 l0 x5_1).f2) x9_4).f1).toList) == (((rd_T51 ((rd_T29 l1 x5_1).f2) x9_4).f1).toList)) || (!((((rd_T51 ((rd_T29 l0 x5_1).f2) x9_4).f2).toList) == (((rd_T51 ((rd_T29 l1 x5_1).f2) x9_4).f2).toList)) || ((!((((rd_T51 ((rd_T29 l0 x5_1).f2) x9_4).f3.f0).toList) == (((rd_T51 ((rd_T29 l1 x5_1).f2) x9_4).f3.f0).toList)) || (!((((rd_T51 ((rd_T29 l0 x5_1).f2) x9_4).f3.f1).toList) == (((rd_T51 ((rd_T29 l1 x5_1).f2) x9_4).f3.f1).toList)) || (!((((rd_T51 ((rd_T29 l0 x5_1).f2) x9_4).f3.f2).toList) == (((rd_T51 ((rd_T29 l1 x5_1).f2) x9_4).f3.f2).toList))))))))) = true
                                    · rw [if_pos c57] at H
                                      have c57b0 : (!((((rd_T51 ((rd_T29 l0 x5_1).f2) x9_4).f0).toList) == (((rd_T51 ((rd_T29 l1 x5_1).f2) x9_4).f0).toList)) || (!((((rd_T51 ((rd_T29 l0 x5_1).f2) x9_4).f1).toList) == (((rd_T51 ((rd_T29 l1 x5_1).f2) x9_4).f1).toList)) || (!((((rd_T51 ((rd_T29 l0 x5_1).f2) x9_4).f2).toList) == (((rd_T51 ((rd_T29 l1 x5_1).f2) x9_4).f2).toList)) || ((!((((rd_T51 ((rd_T29 l0 x5_1).f2) x9_4).f3.f0).toList) == (((rd_T51 ((rd_T29 l1 x5_1).f2) x9_4).f3.f0).toList)) || (!((((rd_T51 ((rd_T29 l0 x5_1).f2) x9_4).f3.f1).toList) == (((rd_T51 ((rd_T29 l1 x5_1).f2) x9_4).f3.f1).toList)) || (!((((rd_T51 ((rd_T29 l0 x5_1).f2) x9_4).f3.f2).toList) == (((rd_T51 ((rd_T29 l1 x5_1).f2) x9_4).f3.f2).toList))))))))) = true := c57
                                      clear c57
                                      obtain rfl := Option.some.inj H
                                      have hnb58 := NB207_208.out
                                      have hnc58 := NB208_207.out
                                      have hcz59_0 : wr.cell? ⟨gb207, 0, none⟩ = some (.string ((rd_T29 l0 x5_1).f0)) := (blk_cell BK207.out 0).trans rfl
                                      have hcz59_1 : wr.cell? ⟨gb207, 1, none⟩ = some (.slice A205_1 ((rd_T29 l0 x5_1).f1).length c205_1) := (blk_cell BK207.out 1).trans rfl
                                      have hcz59_2 : wr.cell? ⟨gb207, 2, none⟩ = some (.slice A205_2 ((rd_T29 l0 x5_1).f2).length c205_2) := (blk_cell BK207.out 2).trans rfl
                                      have hcz59_3 : wr.cell? ⟨gb207, 3, none⟩ = some (.string ((rd_T29 l0 x5_1).f3)) := (blk_cell BK207.out 3).trans rfl
                                      have hcz59_4 : wr.cell? ⟨gb207, 4, none⟩ = some (.string ((rd_T29 l0 x5_1).f4)) := (blk_cell BK207.out 4).trans rfl
                                      have hfz59_0 := blk_frozen BK207.out 0
                                      have hfz59_1 := blk_frozen BK207.out 1
                                      have hfz59_2 := blk_frozen BK207.out 2
                                      have hfz59_3 := blk_frozen BK207.out 3
                                      have hfz59_4 := blk_frozen BK207.out 4
                                      try go_wp2
                                      have n0_ := Aside0.mk (blk_drew BK207.out)
                                      have n1_ := Aside0.mk (blk_drew BK208.out)
                                      have n2_ := Aside0.mk (below_drew1 HB.out)
                                      clear BK207
                                      clear BK208
                                      clear HB
                                      have BK207 := n0_
                                      have BK208 := n1_
                                      have HB := n2_
                                      clear n0_ n1_ n2_
                                      have p211 : 0 ≤ (x9_4 : Int) := of_decide_eq_true (by first | (with_reducible assumption) | assumption)
                                      have q211 : x9_4 < (((rd_T29 l0 x5_1).f2).length : Int) := of_decide_eq_true (by first | (with_reducible assumption) | assumption)
                                      obtain ⟨ad211, e211, hx211_0, hx211_1, hx211_2, hx211_3, hx211_4, hx211_5⟩ := at_T51 HR205_2.out x9_4 p211 q211
                                      have hw211_5 := hx211_5
                                      have hw211_4 := hx211_4
                                      have hw211_3 := hx211_3
                                      have hw211_2 := hx211_2
                                      have hw211_1 := hx211_1
                                      have hw211_0 := hx211_0
                                      cases e211
                                      replace hx211_0 := (HB.out.cell (World.block_lt_of_cell? w _ hx211_0)).trans hx211_0
                                      replace hx211_1 := (HB.out.cell (World.block_lt_of_cell? w _ hx211_1)).trans hx211_1
                                      replace hx211_2 := (HB.out.cell (World.block_lt_of_cell? w _ hx211_2)).trans hx211_2
                                      replace hx211_3 := (HB.out.cell (World.block_lt_of_cell? w _ hx211_3)).trans hx211_3
                                      replace hx211_4 := (HB.out.cell (World.block_lt_of_cell? w _ hx211_4)).trans hx211_4
                                      replace hx211_5 := (HB.out.cell (World.block_lt_of_cell? w _ hx211_5)).trans hx211_5
                                      replace p211 := eq_true p211
                                      replace q211 := eq_true q211
                                      have p212 : 0 ≤ (x9_4 : Int) := of_decide_eq_true (by first | (with_reducible assumption) | assumption)
                                      have q212 : x9_4 < (((rd_T29 l1 x5_1).f2).length : Int) := of_decide_eq_true (by first | (with_reducible assumption) | assumption)
                                      obtain ⟨ad212, e212, hx212_0, hx212_1, hx212_2, hx212_3, hx212_4, hx212_5⟩ := at_T51 HR206_2.out x9_4 p212 q212
                                      have hw212_5 := hx212_5
                                      have hw212_4 := hx212_4
                                      have hw212_3 := hx212_3
                                      have hw212_2 := hx212_2
                                      have hw212_1 := hx212_1
                                      have hw212_0 := hx212_0
                                      cases e212
                                      replace hx212_0 := (HB.out.cell (World.block_lt_of_cell? w _ hx212_0)).trans hx212_0
                                      replace hx212_1 := (HB.out.cell (World.block_lt_of_cell? w _ hx212_1)).trans hx212_1
                                      replace hx212_2 := (HB.out.cell (World.block_lt_of_cell? w _ hx212_2)).trans hx212_2
                                      replace hx212_3 := (HB.out.cell (World.block_lt_of_cell? w _ hx212_3)).trans hx212_3
                                      replace hx212_4 := (HB.out.cell (World.block_lt_of_cell? w _ hx212_4)).trans hx212_4
                                      replace hx212_5 := (HB.out.cell (World.block_lt_of_cell? w _ hx212_5)).trans hx212_5
                                      replace p212 := eq_true p212
                                      replace q212 := eq_true q212
                                      refine start_ (n := 11) (S := fun w' => w'.cell? ⟨gb207, 0, none⟩ = some (.string ((rd_T29 l0 x5_1).f0)) ∧ w'.cell? ⟨gb207, 1, none⟩ = some (.slice A205_1 ((rd_T29 l0 x5_1).f1).length c205_1) ∧ w'.cell? ⟨gb207, 2, none⟩ = some (.slice (some ad211) ((rd_T29 l0 x5_1).f2).length c205_2) ∧ w'.cell? ⟨gb207, 3, none⟩ = some (.string ((rd_T29 l0 x5_1).f3)) ∧ w'.cell? ⟨gb207, 4, none⟩ = some (.string ((rd_T29 l0 x5_1).f4)) ∧ w'.cell? ⟨gb208, 0, none⟩ = some (.string ((rd_T29 l1 x5_1).f0)) ∧ w'.cell? ⟨gb208, 1, none⟩ = some (.slice A206_1 ((rd_T29 l1 x5_1).f1).length c206_1) ∧ w'.cell? ⟨gb208, 2, none⟩ = some (.slice (some ad212) ((rd_T29 l1 x5_1).f2).length c206_2) ∧ w'.cell? ⟨gb208, 3, none⟩ = some (.string ((rd_T29 l1 x5_1).f3)) ∧ w'.cell? ⟨gb208, 4, none⟩ = some (.string ((rd_T29 l1 x5_1).f4)) ∧ w'.cell? (ad211.add ((x9_4).toNat * 6)) = some (.string ((rd_T51 ((rd_T29 l0 x5_1).f2) x9_4).f0)) ∧ w'.cell? ⟨(ad211.add ((x9_4).toNat * 6)).block, (ad211.add ((x9_4).toNat * 6)).off + 1, none⟩ = some (.string ((rd_T51 ((rd_T29 l0 x5_1).f2) x9_4).f1)) ∧ w'.cell? ⟨(ad211.add ((x9_4).toNat * 6)).block, (ad211.add ((x9_4).toNat * 6)).off + 2, none⟩ = some (.string ((rd_T51 ((rd_T29 l0 x5_1).f2) x9_4).f2)) ∧ w'.cell? ⟨(ad211.add ((x9_4).toNat * 6)).block, (ad211.add ((x9_4).toNat * 6)).off + 3, none⟩ = some (.string ((rd_T51 ((rd_T29 l0 x5_1).f2) x9_4).f3.f0)) ∧ w'.cell? ⟨(ad211.add ((x9_4).toNat * 6)).block, (ad211.add ((x9_4).toNat * 6)).off + 4, none⟩ = some (.string ((rd_T51 ((rd_T29 l0 x5_1).f2) x9_4).f3.f1)) ∧ w'.cell? ⟨(ad211.add ((x9_4).toNat * 6)).block, (ad211.add ((x9_4).toNat * 6)).off + 5, none⟩ = some (.string ((rd_T51 ((rd_T29 l0 x5_1).f2) x9_4).f3.f2)) ∧ w'.cell? (ad212.add ((x9_4).toNat * 6)) = some (.string ((rd_T51 ((rd_T29 l1 x5_1).f2) x9_4).f0)) ∧ w'.cell? ⟨(ad212.add ((x9_4).toNat * 6)).block, (ad212.add ((x9_4).toNat * 6)).off + 1, none⟩ = some (.string ((rd_T51 ((rd_T29 l1 x5_1).f2) x9_4).f1)) ∧ w'.cell? ⟨(ad212.add ((x9_4).toNat * 6)).block, (ad212.add ((x9_4).toNat * 6)).off + 2, none⟩ = some (.string ((rd_T51 ((rd_T29 l1 x5_1).f2) x9_4).f2)) ∧ w'.cell? ⟨(ad212.add ((x9_4).toNat * 6)).block, (ad212.add ((x9_4).toNat * 6)).off + 3, none⟩ = some (.string ((rd_T51 ((rd_T29 l1 x5_1).f2) x9_4).f3.f0)) ∧ w'.cell? ⟨(ad212.add ((x9_4).toNat * 6)).block, (ad212.add ((x9_4).toNat * 6)).off + 4, none⟩ = some (.string ((rd_T51 ((rd_T29 l1 x5_1).f2) x9_4).f3.f1)) ∧ w'.cell? ⟨(ad212.add ((x9_4).toNat * 6)).block, (ad212.add ((x9_4).toNat * 6)).off + 5, none⟩ = some (.string ((rd_T51 ((rd_T29 l1 x5_1).f2) x9_4).f3.f2))) (ds := []) #[false, false, false, false, false, false, false, false, false, false, false] (by kernel_rfl) rfl rfl ⟨(blk_cell BK207.out 0).trans rfl, (blk_cell BK207.out 1).trans rfl, (blk_cell BK207.out 2).trans rfl, (blk_cell BK207.out 3).trans rfl, (blk_cell BK207.out 4).trans rfl, (blk_cell BK208.out 0).trans rfl, (blk_cell BK208.out 1).trans rfl, (blk_cell BK208.out 2).trans rfl, (blk_cell BK208.out 3).trans rfl, (blk_cell BK208.out 4).trans rfl, ((HB.out.cell (World.block_lt_of_cell? w _ hw211_0)).trans hw211_0), ((HB.out.cell (World.block_lt_of_cell? w _ hw211_1)).trans hw211_1), ((HB.out.cell (World.block_lt_of_cell? w _ hw211_2)).trans hw211_2), ((HB.out.cell (World.block_lt_of_cell? w _ hw211_3)).trans hw211_3), ((HB.out.cell (World.block_lt_of_cell? w _ hw211_4)).trans hw211_4), ((HB.out.cell (World.block_lt_of_cell? w _ hw211_5)).trans hw211_5), ((HB.out.cell (World.block_lt_of_cell? w _ hw212_0)).trans hw212_0), ((HB.out.cell (World.block_lt_of_cell? w _ hw212_1)).trans hw212_1), ((HB.out.cell (World.block_lt_of_cell? w _ hw212_2)).trans hw212_2), ((HB.out.cell (World.block_lt_of_cell? w _ hw212_3)).trans hw212_3), ((HB.out.cell (World.block_lt_of_cell? w _ hw212_4)).trans hw212_4), ((HB.out.cell (World.block_lt_of_cell? w _ hw212_5)).trans hw212_5)⟩ (fun hHeld => ?_); refine with_tabW lunetteref20_Same.tab17 lunetteref20_Same.bits17 (fun HT_ HW_ => ?_)
                                      generalize wr.drew = w60 at BK207 BK208 HB hx211_0 hx211_1 hx211_2 hx211_3 hx211_4 hx211_5 hx212_0 hx212_1 hx212_2 hx212_3 hx212_4 hx212_5 hHeld ⊢
                                      refine pure_ (i := 0) (N := some 91) (v := ?_) (a' := ?_) #[true, false, false, false, false, false, false, false, false, false, false] rfl rfl (any_of HT_.out (by kernel_rfl)) (fun _ _ _ h => h) (Or.inl ⟨by rfl, ?_⟩) ?_ ?_
                                      rotate_left
                                      · intro w'
                                        go_simp
                                        with_reducible rfl
                                      rotate_left
                                      · simp only [Act.put, List.setIfInBounds_toArray, List.set_cons_zero, List.set_cons_succ, i64_w, i32_w]
                                        rfl
                                      refine pure_ (i := 2) (N := some 93) (v := ?_) (a' := ?_) #[true, false, true, false, false, false, false, false, false, false, false] rfl rfl (any_of HT_.out (by kernel_rfl)) (fun _ _ _ h => h) (Or.inl ⟨by rfl, ?_⟩) ?_ ?_
                                      rotate_left
                                      · intro w'
                                        go_simp
                                        with_reducible rfl
                                      rotate_left
                                      · simp only [Act.put, List.setIfInBounds_toArray, List.set_cons_zero, List.set_cons_succ, i64_w, i32_w]
                                        rfl
                                      refine pure_ (i := 5) (N := some 96) (v := ?_) (a' := ?_) #[true, false, true, false, false, true, false, false, false, false, false] rfl rfl (any_of HT_.out (by kernel_rfl)) (fun _ _ _ h => h) (Or.inl ⟨by rfl, ?_⟩) ?_ ?_
                                      rotate_left
                                      · intro w'
                                        go_simp
                                        with_reducible rfl
                                      rotate_left
                                      · simp only [Act.put, List.setIfInBounds_toArray, List.set_cons_zero, List.set_cons_succ, i64_w, i32_w]
                                        rfl
                                      refine pure_ (i := 7) (N := some 98) (v := ?_) (a' := ?_) #[true, false, true, false, false, true, false, true, false, false, false] rfl rfl (any_of HT_.out (by kernel_rfl)) (fun _ _ _ h => h) (Or.inl ⟨by rfl, ?_⟩) ?_ ?_
                                      rotate_left
                                      · intro w'
                                        go_simp
                                        with_reducible rfl
                                      rotate_left
                                      · simp only [Act.put, List.setIfInBounds_toArray, List.set_cons_zero, List.set_cons_succ, i64_w, i32_w]
                                        rfl
                                      refine take_ (i := 1) (N := some 92) (v := ?_) (a' := ?_) #[true, true, true, false, false, true, false, true, false, false, false] rfl rfl (take_ofW HT_.out HW_.out (by kernel_rfl)) (fun _ _ _ h => h) (Or.inl ⟨by rfl, ?_⟩) hHeld ?_ ?_
                                      rotate_left
                                      · rintro w' ⟨s0, s1, s2, s3, s4, s5, s6, s7, s8, s9, s10, s11, s12, s13, s14, s15, s16, s17, s18, s19, s20, s21⟩
                                        go_simp
                                        with_reducible rfl
                                      rotate_left
                                      · simp only [Act.put, List.setIfInBounds_toArray, List.set_cons_zero, List.set_cons_succ, i64_w, i32_w]
                                        rfl
                                      refine pure_ (i := 3) (N := some 94) (v := ?_) (a' := ?_) #[true, true, true, true, false, true, false, true, false, false, false] rfl rfl (any_of HT_.out (by kernel_rfl)) (fun _ _ _ h => h) (Or.inl ⟨by rfl, ?_⟩) ?_ ?_
                                      rotate_left
                                      · intro w'
                                        go_simp
                                        with_reducible rfl
                                      rotate_left
                                      · simp only [Act.put, List.setIfInBounds_toArray, List.set_cons_zero, List.set_cons_succ, i64_w, i32_w]
                                        rfl
                                      refine take_ (i := 4) (N := some 95) (v := ?_) (a' := ?_) #[true, true, true, true, true, true, false, true, false, false, false] rfl rfl (take_ofW HT_.out HW_.out (by kernel_rfl)) (fun _ _ _ h => h) (Or.inl ⟨by rfl, ?_⟩) hHeld ?_ ?_
                                      rotate_left
                                      · rintro w' ⟨s0, s1, s2, s3, s4, s5, s6, s7, s8, s9, s10, s11, s12, s13, s14, s15, s16, s17, s18, s19, s20, s21⟩
                                        go_simp
                                        with_reducible rfl
                                      rotate_left
                                      · simp only [Act.put, List.setIfInBounds_toArray, List.set_cons_zero, List.set_cons_succ, i64_w, i32_w]
                                        rfl
                                      refine take_ (i := 6) (N := some 97) (v := ?_) (a' := ?_) #[true, true, true, true, true, true, true, true, false, false, false] rfl rfl (take_ofW HT_.out HW_.out (by kernel_rfl)) (fun _ _ _ h => h) (Or.inl ⟨by rfl, ?_⟩) hHeld ?_ ?_
                                      rotate_left
                                      · rintro w' ⟨s0, s1, s2, s3, s4, s5, s6, s7, s8, s9, s10, s11, s12, s13, s14, s15, s16, s17, s18, s19, s20, s21⟩
                                        go_simp
                                        with_reducible rfl
                                      rotate_left
                                      · simp only [Act.put, List.setIfInBounds_toArray, List.set_cons_zero, List.set_cons_succ, i64_w, i32_w]
                                        rfl
                                      refine pure_ (i := 8) (N := some 99) (v := ?_) (a' := ?_) #[true, true, true, true, true, true, true, true, true, false, false] rfl rfl (any_of HT_.out (by kernel_rfl)) (fun _ _ _ h => h) (Or.inl ⟨by rfl, ?_⟩) ?_ ?_
                                      rotate_left
                                      · intro w'
                                        go_simp
                                        with_reducible rfl
                                      rotate_left
                                      · simp only [Act.put, List.setIfInBounds_toArray, List.set_cons_zero, List.set_cons_succ, i64_w, i32_w]
                                        rfl
                                      refine take_ (i := 9) (N := some 100) (v := ?_) (a' := ?_) #[true, true, true, true, true, true, true, true, true, true, false] rfl rfl (take_ofW HT_.out HW_.out (by kernel_rfl)) (fun _ _ _ h => h) (Or.inl ⟨by rfl, ?_⟩) hHeld ?_ ?_
                                      rotate_left
                                      · rintro w' ⟨s0, s1, s2, s3, s4, s5, s6, s7, s8, s9, s10, s11, s12, s13, s14, s15, s16, s17, s18, s19, s20, s21⟩
                                        go_simp
                                        with_reducible rfl
                                      rotate_left
                                      · simp only [Act.put, List.setIfInBounds_toArray, List.set_cons_zero, List.set_cons_succ, i64_w, i32_w]
                                        rfl
                                      refine pure_ (i := 10) (N := some 101) (v := ?_) (a' := ?_) #[true, true, true, true, true, true, true, true, true, true, true] rfl rfl (any_of HT_.out (by kernel_rfl)) (fun _ _ _ h => h) (Or.inl ⟨by rfl, ?_⟩) ?_ ?_
                                      rotate_left
                                      · intro w'
                                        go_simp
                                        with_reducible rfl
                                      rotate_left
                                      · simp only [Act.put, List.setIfInBounds_toArray, List.set_cons_zero, List.set_cons_succ, i64_w, i32_w]
                                        rfl
                                      refine done_ (done_of HT_.out (by kernel_rfl)) ?_
                                      try go_wp2
                                      go_ret
                                      exact ⟨by first | rfl | (simp [errW_none, errW_some] <;> rfl) | (simp [*, errW_none, errW_some] <;> rfl), by repeat (first | (with_reducible first | exact HB.out | apply below_alloc | apply pw_below_drewN | apply below_drew1 | refine below_set ?_ GE207.out | refine below_set ?_ GE208.out) | exact HB.out)⟩
                                    · rw [if_neg c57] at H
                                      have c57b0 : (!((((rd_T51 ((rd_T29 l0 x5_1).f2) x9_4).f0).toList) == (((rd_T51 ((rd_T29 l1 x5_1).f2) x9_4).f0).toList)) || (!((((rd_T51 ((rd_T29 l0 x5_1).f2) x9_4).f1).toList) == (((rd_T51 ((rd_T29 l1 x5_1).f2) x9_4).f1).toList)) || (!((((rd_T51 ((rd_T29 l0 x5_1).f2) x9_4).f2).toList) == (((rd_T51 ((rd_T29 l1 x5_1).f2) x9_4).f2).toList)) || ((!((((rd_T51 ((rd_T29 l0 x5_1).f2) x9_4).f3.f0).toList) == (((rd_T51 ((rd_T29 l1 x5_1).f2) x9_4).f3.f0).toList)) || (!((((rd_T51 ((rd_T29 l0 x5_1).f2) x9_4).f3.f1).toList) == (((rd_T51 ((rd_T29 l1 x5_1).f2) x9_4).f3.f1).toList)) || (!((((rd_T51 ((rd_T29 l0 x5_1).f2) x9_4).f3.f2).toList) == (((rd_T51 ((rd_T29 l1 x5_1).f2) x9_4).f3.f2).toList))))))))) = false := by simpa using c57
                                      clear c57
                                      have H' := Aside0.mk H
                                      clear H
                                      have hnb61 := NB207_208.out
                                      have hnc61 := NB208_207.out
                                      have hcz62_0 : wr.cell? ⟨gb207, 0, none⟩ = some (.string ((rd_T29 l0 x5_1).f0)) := (blk_cell BK207.out 0).trans rfl
                                      have hcz62_1 : wr.cell? ⟨gb207, 1, none⟩ = some (.slice A205_1 ((rd_T29 l0 x5_1).f1).length c205_1) := (blk_cell BK207.out 1).trans rfl
                                      have hcz62_2 : wr.cell? ⟨gb207, 2, none⟩ = some (.slice A205_2 ((rd_T29 l0 x5_1).f2).length c205_2) := (blk_cell BK207.out 2).trans rfl
                                      have hcz62_3 : wr.cell? ⟨gb207, 3, none⟩ = some (.string ((rd_T29 l0 x5_1).f3)) := (blk_cell BK207.out 3).trans rfl
                                      have hcz62_4 : wr.cell? ⟨gb207, 4, none⟩ = some (.string ((rd_T29 l0 x5_1).f4)) := (blk_cell BK207.out 4).trans rfl
                                      have hfz62_0 := blk_frozen BK207.out 0
                                      have hfz62_1 := blk_frozen BK207.out 1
                                      have hfz62_2 := blk_frozen BK207.out 2
                                      have hfz62_3 := blk_frozen BK207.out 3
                                      have hfz62_4 := blk_frozen BK207.out 4
                                      try go_wp2
                                      have n0_ := Aside0.mk (blk_drew BK207.out)
                                      have n1_ := Aside0.mk (blk_drew BK208.out)
                                      have n2_ := Aside0.mk (below_drew1 HB.out)
                                      clear BK207
                                      clear BK208
                                      clear HB
                                      have BK207 := n0_
                                      have BK208 := n1_
                                      have HB := n2_
                                      clear n0_ n1_ n2_
                                      have p211 : 0 ≤ (x9_4 : Int) := of_decide_eq_true (by first | (with_reducible assumption) | assumption)
                                      have q211 : x9_4 < (((rd_T29 l0 x5_1).f2).length : Int) := of_decide_eq_true (by first | (with_reducible assumption) | assumption)
                                      obtain ⟨ad211, e211, hx211_0, hx211_1, hx211_2, hx211_3, hx211_4, hx211_5⟩ := at_T51 HR205_2.out x9_4 p211 q211
                                      have hw211_5 := hx211_5
                                      have hw211_4 := hx211_4
                                      have hw211_3 := hx211_3
                                      have hw211_2 := hx211_2
                                      have hw211_1 := hx211_1
                                      have hw211_0 := hx211_0
                                      cases e211
                                      replace hx211_0 := (HB.out.cell (World.block_lt_of_cell? w _ hx211_0)).trans hx211_0
                                      replace hx211_1 := (HB.out.cell (World.block_lt_of_cell? w _ hx211_1)).trans hx211_1
                                      replace hx211_2 := (HB.out.cell (World.block_lt_of_cell? w _ hx211_2)).trans hx211_2
                                      replace hx211_3 := (HB.out.cell (World.block_lt_of_cell? w _ hx211_3)).trans hx211_3
                                      replace hx211_4 := (HB.out.cell (World.block_lt_of_cell? w _ hx211_4)).trans hx211_4
                                      replace hx211_5 := (HB.out.cell (World.block_lt_of_cell? w _ hx211_5)).trans hx211_5
                                      replace p211 := eq_true p211
                                      replace q211 := eq_true q211
                                      have p212 : 0 ≤ (x9_4 : Int) := of_decide_eq_true (by first | (with_reducible assumption) | assumption)
                                      have q212 : x9_4 < (((rd_T29 l1 x5_1).f2).length : Int) := of_decide_eq_true (by first | (with_reducible assumption) | assumption)
                                      obtain ⟨ad212, e212, hx212_0, hx212_1, hx212_2, hx212_3, hx212_4, hx212_5⟩ := at_T51 HR206_2.out x9_4 p212 q212
                                      have hw212_5 := hx212_5
                                      have hw212_4 := hx212_4
                                      have hw212_3 := hx212_3
                                      have hw212_2 := hx212_2
                                      have hw212_1 := hx212_1
                                      have hw212_0 := hx212_0
                                      cases e212
                                      replace hx212_0 := (HB.out.cell (World.block_lt_of_cell? w _ hx212_0)).trans hx212_0
                                      replace hx212_1 := (HB.out.cell (World.block_lt_of_cell? w _ hx212_1)).trans hx212_1
                                      replace hx212_2 := (HB.out.cell (World.block_lt_of_cell? w _ hx212_2)).trans hx212_2
                                      replace hx212_3 := (HB.out.cell (World.block_lt_of_cell? w _ hx212_3)).trans hx212_3
                                      replace hx212_4 := (HB.out.cell (World.block_lt_of_cell? w _ hx212_4)).trans hx212_4
                                      replace hx212_5 := (HB.out.cell (World.block_lt_of_cell? w _ hx212_5)).trans hx212_5
                                      replace p212 := eq_true p212
                                      replace q212 := eq_true q212
                                      refine start_ (n := 11) (S := fun w' => w'.cell? ⟨gb207, 0, none⟩ = some (.string ((rd_T29 l0 x5_1).f0)) ∧ w'.cell? ⟨gb207, 1, none⟩ = some (.slice A205_1 ((rd_T29 l0 x5_1).f1).length c205_1) ∧ w'.cell? ⟨gb207, 2, none⟩ = some (.slice (some ad211) ((rd_T29 l0 x5_1).f2).length c205_2) ∧ w'.cell? ⟨gb207, 3, none⟩ = some (.string ((rd_T29 l0 x5_1).f3)) ∧ w'.cell? ⟨gb207, 4, none⟩ = some (.string ((rd_T29 l0 x5_1).f4)) ∧ w'.cell? ⟨gb208, 0, none⟩ = some (.string ((rd_T29 l1 x5_1).f0)) ∧ w'.cell? ⟨gb208, 1, none⟩ = some (.slice A206_1 ((rd_T29 l1 x5_1).f1).length c206_1) ∧ w'.cell? ⟨gb208, 2, none⟩ = some (.slice (some ad212) ((rd_T29 l1 x5_1).f2).length c206_2) ∧ w'.cell? ⟨gb208, 3, none⟩ = some (.string ((rd_T29 l1 x5_1).f3)) ∧ w'.cell? ⟨gb208, 4, none⟩ = some (.string ((rd_T29 l1 x5_1).f4)) ∧ w'.cell? (ad211.add ((x9_4).toNat * 6)) = some (.string ((rd_T51 ((rd_T29 l0 x5_1).f2) x9_4).f0)) ∧ w'.cell? ⟨(ad211.add ((x9_4).toNat * 6)).block, (ad211.add ((x9_4).toNat * 6)).off + 1, none⟩ = some (.string ((rd_T51 ((rd_T29 l0 x5_1).f2) x9_4).f1)) ∧ w'.cell? ⟨(ad211.add ((x9_4).toNat * 6)).block, (ad211.add ((x9_4).toNat * 6)).off + 2, none⟩ = some (.string ((rd_T51 ((rd_T29 l0 x5_1).f2) x9_4).f2)) ∧ w'.cell? ⟨(ad211.add ((x9_4).toNat * 6)).block, (ad211.add ((x9_4).toNat * 6)).off + 3, none⟩ = some (.string ((rd_T51 ((rd_T29 l0 x5_1).f2) x9_4).f3.f0)) ∧ w'.cell? ⟨(ad211.add ((x9_4).toNat * 6)).block, (ad211.add ((x9_4).toNat * 6)).off + 4, none⟩ = some (.string ((rd_T51 ((rd_T29 l0 x5_1).f2) x9_4).f3.f1)) ∧ w'.cell? ⟨(ad211.add ((x9_4).toNat * 6)).block, (ad211.add ((x9_4).toNat * 6)).off + 5, none⟩ = some (.string ((rd_T51 ((rd_T29 l0 x5_1).f2) x9_4).f3.f2)) ∧ w'.cell? (ad212.add ((x9_4).toNat * 6)) = some (.string ((rd_T51 ((rd_T29 l1 x5_1).f2) x9_4).f0)) ∧ w'.cell? ⟨(ad212.add ((x9_4).toNat * 6)).block, (ad212.add ((x9_4).toNat * 6)).off + 1, none⟩ = some (.string ((rd_T51 ((rd_T29 l1 x5_1).f2) x9_4).f1)) ∧ w'.cell? ⟨(ad212.add ((x9_4).toNat * 6)).block, (ad212.add ((x9_4).toNat * 6)).off + 2, none⟩ = some (.string ((rd_T51 ((rd_T29 l1 x5_1).f2) x9_4).f2)) ∧ w'.cell? ⟨(ad212.add ((x9_4).toNat * 6)).block, (ad212.add ((x9_4).toNat * 6)).off + 3, none⟩ = some (.string ((rd_T51 ((rd_T29 l1 x5_1).f2) x9_4).f3.f0)) ∧ w'.cell? ⟨(ad212.add ((x9_4).toNat * 6)).block, (ad212.add ((x9_4).toNat * 6)).off + 4, none⟩ = some (.string ((rd_T51 ((rd_T29 l1 x5_1).f2) x9_4).f3.f1)) ∧ w'.cell? ⟨(ad212.add ((x9_4).toNat * 6)).block, (ad212.add ((x9_4).toNat * 6)).off + 5, none⟩ = some (.string ((rd_T51 ((rd_T29 l1 x5_1).f2) x9_4).f3.f2))) (ds := []) #[false, false, false, false, false, false, false, false, false, false, false] (by kernel_rfl) rfl rfl ⟨(blk_cell BK207.out 0).trans rfl, (blk_cell BK207.out 1).trans rfl, (blk_cell BK207.out 2).trans rfl, (blk_cell BK207.out 3).trans rfl, (blk_cell BK207.out 4).trans rfl, (blk_cell BK208.out 0).trans rfl, (blk_cell BK208.out 1).trans rfl, (blk_cell BK208.out 2).trans rfl, (blk_cell BK208.out 3).trans rfl, (blk_cell BK208.out 4).trans rfl, ((HB.out.cell (World.block_lt_of_cell? w _ hw211_0)).trans hw211_0), ((HB.out.cell (World.block_lt_of_cell? w _ hw211_1)).trans hw211_1), ((HB.out.cell (World.block_lt_of_cell? w _ hw211_2)).trans hw211_2), ((HB.out.cell (World.block_lt_of_cell? w _ hw211_3)).trans hw211_3), ((HB.out.cell (World.block_lt_of_cell? w _ hw211_4)).trans hw211_4), ((HB.out.cell (World.block_lt_of_cell? w _ hw211_5)).trans hw211_5), ((HB.out.cell (World.block_lt_of_cell? w _ hw212_0)).trans hw212_0), ((HB.out.cell (World.block_lt_of_cell? w _ hw212_1)).trans hw212_1), ((HB.out.cell (World.block_lt_of_cell? w _ hw212_2)).trans hw212_2), ((HB.out.cell (World.block_lt_of_cell? w _ hw212_3)).trans hw212_3), ((HB.out.cell (World.block_lt_of_cell? w _ hw212_4)).trans hw212_4), ((HB.out.cell (World.block_lt_of_cell? w _ hw212_5)).trans hw212_5)⟩ (fun hHeld => ?_); refine with_tabW lunetteref20_Same.tab17 lunetteref20_Same.bits17 (fun HT_ HW_ => ?_)
                                      generalize wr.drew = w63 at BK207 BK208 HB hx211_0 hx211_1 hx211_2 hx211_3 hx211_4 hx211_5 hx212_0 hx212_1 hx212_2 hx212_3 hx212_4 hx212_5 hHeld ⊢
                                      refine pure_ (i := 0) (N := some 91) (v := ?_) (a' := ?_) #[true, false, false, false, false, false, false, false, false, false, false] rfl rfl (any_of HT_.out (by kernel_rfl)) (fun _ _ _ h => h) (Or.inl ⟨by rfl, ?_⟩) ?_ ?_
                                      rotate_left
                                      · intro w'
                                        go_simp
                                        with_reducible rfl
                                      rotate_left
                                      · simp only [Act.put, List.setIfInBounds_toArray, List.set_cons_zero, List.set_cons_succ, i64_w, i32_w]
                                        rfl
                                      refine pure_ (i := 2) (N := some 93) (v := ?_) (a' := ?_) #[true, false, true, false, false, false, false, false, false, false, false] rfl rfl (any_of HT_.out (by kernel_rfl)) (fun _ _ _ h => h) (Or.inl ⟨by rfl, ?_⟩) ?_ ?_
                                      rotate_left
                                      · intro w'
                                        go_simp
                                        with_reducible rfl
                                      rotate_left
                                      · simp only [Act.put, List.setIfInBounds_toArray, List.set_cons_zero, List.set_cons_succ, i64_w, i32_w]
                                        rfl
                                      refine pure_ (i := 5) (N := some 96) (v := ?_) (a' := ?_) #[true, false, true, false, false, true, false, false, false, false, false] rfl rfl (any_of HT_.out (by kernel_rfl)) (fun _ _ _ h => h) (Or.inl ⟨by rfl, ?_⟩) ?_ ?_
                                      rotate_left
                                      · intro w'
                                        go_simp
                                        with_reducible rfl
                                      rotate_left
                                      · simp only [Act.put, List.setIfInBounds_toArray, List.set_cons_zero, List.set_cons_succ, i64_w, i32_w]
                                        rfl
                                      refine pure_ (i := 7) (N := some 98) (v := ?_) (a' := ?_) #[true, false, true, false, false, true, false, true, false, false, false] rfl rfl (any_of HT_.out (by kernel_rfl)) (fun _ _ _ h => h) (Or.inl ⟨by rfl, ?_⟩) ?_ ?_
                                      rotate_left
                                      · intro w'
                                        go_simp
                                        with_reducible rfl
                                      rotate_left
                                      · simp only [Act.put, List.setIfInBounds_toArray, List.set_cons_zero, List.set_cons_succ, i64_w, i32_w]
                                        rfl
                                      refine take_ (i := 1) (N := some 92) (v := ?_) (a' := ?_) #[true, true, true, false, false, true, false, true, false, false, false] rfl rfl (take_ofW HT_.out HW_.out (by kernel_rfl)) (fun _ _ _ h => h) (Or.inl ⟨by rfl, ?_⟩) hHeld ?_ ?_
                                      rotate_left
                                      · rintro w' ⟨s0, s1, s2, s3, s4, s5, s6, s7, s8, s9, s10, s11, s12, s13, s14, s15, s16, s17, s18, s19, s20, s21⟩
                                        go_simp
                                        with_reducible rfl
                                      rotate_left
                                      · simp only [Act.put, List.setIfInBounds_toArray, List.set_cons_zero, List.set_cons_succ, i64_w, i32_w]
                                        rfl
                                      refine pure_ (i := 3) (N := some 94) (v := ?_) (a' := ?_) #[true, true, true, true, false, true, false, true, false, false, false] rfl rfl (any_of HT_.out (by kernel_rfl)) (fun _ _ _ h => h) (Or.inl ⟨by rfl, ?_⟩) ?_ ?_
                                      rotate_left
                                      · intro w'
                                        go_simp
                                        with_reducible rfl
                                      rotate_left
                                      · simp only [Act.put, List.setIfInBounds_toArray, List.set_cons_zero, List.set_cons_succ, i64_w, i32_w]
                                        rfl
                                      refine take_ (i := 4) (N := some 95) (v := ?_) (a' := ?_) #[true, true, true, true, true, true, false, true, false, false, false] rfl rfl (take_ofW HT_.out HW_.out (by kernel_rfl)) (fun _ _ _ h => h) (Or.inl ⟨by rfl, ?_⟩) hHeld ?_ ?_
                                      rotate_left
                                      · rintro w' ⟨s0, s1, s2, s3, s4, s5, s6, s7, s8, s9, s10, s11, s12, s13, s14, s15, s16, s17, s18, s19, s20, s21⟩
                                        go_simp
                                        with_reducible rfl
                                      rotate_left
                                      · simp only [Act.put, List.setIfInBounds_toArray, List.set_cons_zero, List.set_cons_succ, i64_w, i32_w]
                                        rfl
                                      refine take_ (i := 6) (N := some 97) (v := ?_) (a' := ?_) #[true, true, true, true, true, true, true, true, false, false, false] rfl rfl (take_ofW HT_.out HW_.out (by kernel_rfl)) (fun _ _ _ h => h) (Or.inl ⟨by rfl, ?_⟩) hHeld ?_ ?_
                                      rotate_left
                                      · rintro w' ⟨s0, s1, s2, s3, s4, s5, s6, s7, s8, s9, s10, s11, s12, s13, s14, s15, s16, s17, s18, s19, s20, s21⟩
                                        go_simp
                                        with_reducible rfl
                                      rotate_left
                                      · simp only [Act.put, List.setIfInBounds_toArray, List.set_cons_zero, List.set_cons_succ, i64_w, i32_w]
                                        rfl
                                      refine pure_ (i := 8) (N := some 99) (v := ?_) (a' := ?_) #[true, true, true, true, true, true, true, true, true, false, false] rfl rfl (any_of HT_.out (by kernel_rfl)) (fun _ _ _ h => h) (Or.inl ⟨by rfl, ?_⟩) ?_ ?_
                                      rotate_left
                                      · intro w'
                                        go_simp
                                        with_reducible rfl
                                      rotate_left
                                      · simp only [Act.put, List.setIfInBounds_toArray, List.set_cons_zero, List.set_cons_succ, i64_w, i32_w]
                                        rfl
                                      refine take_ (i := 9) (N := some 100) (v := ?_) (a' := ?_) #[true, true, true, true, true, true, true, true, true, true, false] rfl rfl (take_ofW HT_.out HW_.out (by kernel_rfl)) (fun _ _ _ h => h) (Or.inl ⟨by rfl, ?_⟩) hHeld ?_ ?_
                                      rotate_left
                                      · rintro w' ⟨s0, s1, s2, s3, s4, s5, s6, s7, s8, s9, s10, s11, s12, s13, s14, s15, s16, s17, s18, s19, s20, s21⟩
                                        go_simp
                                        with_reducible rfl
                                      rotate_left
                                      · simp only [Act.put, List.setIfInBounds_toArray, List.set_cons_zero, List.set_cons_succ, i64_w, i32_w]
                                        rfl
                                      refine pure_ (i := 10) (N := some 101) (v := ?_) (a' := ?_) #[true, true, true, true, true, true, true, true, true, true, true] rfl rfl (any_of HT_.out (by kernel_rfl)) (fun _ _ _ h => h) (Or.inl ⟨by rfl, ?_⟩) ?_ ?_
                                      rotate_left
                                      · intro w'
                                        go_simp
                                        with_reducible rfl
                                      rotate_left
                                      · simp only [Act.put, List.setIfInBounds_toArray, List.set_cons_zero, List.set_cons_succ, i64_w, i32_w]
                                        rfl
                                      refine done_ (done_of HT_.out (by kernel_rfl)) ?_
                                      try go_wp2
                                      go_roundg k4
                                      case measure => have := HK1.out; have := HJ6.out; have := HK3.out; have := HK4.out; omega
                                      case rel => exact ⟨(wrap64 (x9_4 + 1)), (by first | rfl | (simp; done) | (simp [*]; done)), H', ⟨by have := HK1.out; have := HJ6.out; have := HK3.out; have := HK4.out; omega⟩, ⟨by (with_reducible repeat (first | refine blk_drewN ?_ _ | refine blk_drew ?_ | refine blk_alloc ?_ _)); exact BK207.out⟩, ⟨by (with_reducible repeat (first | refine blk_drewN ?_ _ | refine blk_drew ?_ | refine blk_alloc ?_ _)); exact BK208.out⟩, ⟨by repeat (first | (with_reducible first | exact HB.out | apply below_alloc | apply pw_below_drewN | apply below_drew1 | refine below_set ?_ GE207.out | refine below_set ?_ GE208.out) | exact HB.out)⟩⟩
                                  · rw [if_neg c56] at H
                                    exact absurd H (by simp)
                                · rw [if_neg c55] at H
                                  exact absurd H (by simp)
                              · rw [if_neg c54] at H
                                have c54b0 : decide (x9_4 < (((rd_T29 l0 x5_1).f2).length : Int)) = false := decide_eq_false c54
                                clear c54
                                have H' := Aside0.mk H
                                clear H
                                have hnb64 := NB207_208.out
                                have hnc64 := NB208_207.out
                                have hcz65_0 : wr.cell? ⟨gb207, 0, none⟩ = some (.string ((rd_T29 l0 x5_1).f0)) := (blk_cell BK207.out 0).trans rfl
                                have hcz65_1 : wr.cell? ⟨gb207, 1, none⟩ = some (.slice A205_1 ((rd_T29 l0 x5_1).f1).length c205_1) := (blk_cell BK207.out 1).trans rfl
                                have hcz65_2 : wr.cell? ⟨gb207, 2, none⟩ = some (.slice A205_2 ((rd_T29 l0 x5_1).f2).length c205_2) := (blk_cell BK207.out 2).trans rfl
                                have hcz65_3 : wr.cell? ⟨gb207, 3, none⟩ = some (.string ((rd_T29 l0 x5_1).f3)) := (blk_cell BK207.out 3).trans rfl
                                have hcz65_4 : wr.cell? ⟨gb207, 4, none⟩ = some (.string ((rd_T29 l0 x5_1).f4)) := (blk_cell BK207.out 4).trans rfl
                                have hfz65_0 := blk_frozen BK207.out 0
                                have hfz65_1 := blk_frozen BK207.out 1
                                have hfz65_2 := blk_frozen BK207.out 2
                                have hfz65_3 := blk_frozen BK207.out 3
                                have hfz65_4 := blk_frozen BK207.out 4
                                go_wp2
                                go_roundg k4
                                case measure => have := HK1.out; have := HJ6.out; have := HK3.out; have := HK4.out; omega
                                case rel => exact ⟨(wrap64 (x5_1 + 1)), (by first | rfl | (simp; done) | (simp [*]; done)), H', ⟨by have := HK1.out; have := HJ6.out; have := HK3.out; have := HK4.out; omega⟩, ⟨by repeat (first | (with_reducible first | exact HB.out | apply below_alloc | apply pw_below_drewN | apply below_drew1 | refine below_set ?_ GE207.out | refine below_set ?_ GE208.out) | exact HB.out)⟩⟩
            · rw [if_neg c6] at H
              exact absurd H (by simp)
          · rw [if_neg c5] at H
            exact absurd H (by simp)
        · rw [if_neg c4] at H
          have c4b0 : decide (x5_1 < (l0.length : Int)) = false := decide_eq_false c4
          clear c4
          obtain rfl := Option.some.inj H
          go_wp2
          go_ret
          exact ⟨by first | rfl | (simp [errW_none, errW_some] <;> rfl) | (simp [*, errW_none, errW_some] <;> rfl), by repeat (first | (with_reducible first | exact HB.out | apply below_alloc | apply pw_below_drewN | apply below_drew1) | exact HB.out)⟩
  · rw [if_neg c3] at H
    have c3b0 : ((l0.length : Int) == (l1.length : Int)) = false := beq_eq_false_iff_ne.mpr c3
    have c3b1 : ((l0.length : Int) != (l1.length : Int)) = true := bne_iff_ne.mpr c3
    have c3b2 : (l0.length == l1.length) = false := by first | simpa using c3 | (simp at c3 ⊢; omega)
    obtain rfl := Option.some.inj H
    go_enter Tryz.func15, Tryz.ntmps15
    go_wp2
    go_ret
    exact ⟨by first | rfl | (simp [errW_none, errW_some] <;> rfl) | (simp [*, errW_none, errW_some] <;> rfl), by repeat (first | (with_reducible first | exact HB.out | apply below_alloc | apply pw_below_drewN | apply below_drew1) | exact HB.out)⟩

end Go.Proofs.YtbdoafigggcdpaaGreatDoor.PScr
