/- Walks of the reference, cut out of what print.sh wrote for the laws of this seat. No condition of ours. -/
import Derived.Test.YtbdoafigggcdpaaGreatDoorQK0
namespace Go.Proofs.YtbdoafigggcdpaaGreatDoor.PScr
open Go.RowKit Go.Proofs.YtbdoafigggcdpaaGreatDoorW.PrintWords Go.Proofs.YtbdoafigggcdpaaGreatDoorW.PrintLast Go.Proofs.YtbdoafigggcdpaaGreatDoorW.PrintMore
attribute [local go_sem] max2_int min2_int max_two min_two max_three min_three max_four min_four
set_option linter.unusedVariables false
set_option linter.unusedSimpArgs false
/-! ### lunetteref11_Parts: function 21 -/
def lunetteref11_Parts.f (a0_0 : ByteArray) (a0_1 : ByteArray) (a0_2 : ByteArray) (a0_3 : ByteArray) (a0_4 : ByteArray) (a0_5 : ByteArray) : Option (List ByteArray) := some (([a0_0, a0_1, a0_2, a0_3, a0_4, a0_5] : List ByteArray))
set_option maxHeartbeats 8000000 in
set_option maxRecDepth 100000 in
theorem lunetteref11_Parts.calls (a0_0 : ByteArray) (a0_1 : ByteArray) (a0_2 : ByteArray) (a0_3 : ByteArray) (a0_4 : ByteArray) (a0_5 : ByteArray) (r : List ByteArray) (w : World) (h : lunetteref11_Parts.f a0_0 a0_1 a0_2 a0_3 a0_4 a0_5 = some r) :
    Calls Tryz.prog 21 #[.agg #[.string a0_0, .string a0_1, .string a0_2, .string a0_3, .string a0_4, .string a0_5]] w fun e w' => ∃ v0_ : Value, e = .returned (v0_) ∧ Kd.R Kd.string 9 w' w.heap.size (fun _ => True) v0_ r ∧ Below w.heap.size w w' := by
  have hu51 := Tryz.underlying51
  have HB := Aside0.mk (Below.refl w.heap.size w)
  have H : (some (([a0_0, a0_1, a0_2, a0_3, a0_4, a0_5] : List ByteArray))) = some r := h
  clear h
  obtain ⟨y152, hy152⟩ : ∃ y_ : List ByteArray, y_ = (([a0_0, a0_1, a0_2, a0_3, a0_4, a0_5] : List ByteArray)) := ⟨_, rfl⟩
  replace H : (some y152) = some r := by first | (rw [hy152]; with_reducible exact H) | (have H2_ := (Option.bind_some _ _).symm.trans H; rw [hy152]; with_reducible exact H2_) | (have H2_ := (Option.bind_some _ _).symm.trans H; with_reducible exact H2_) | with_reducible exact H | (rw [hy152]; exact H) | exact H
  have Ny152 := Aside0.mk hy152
  clear hy152
  obtain rfl := Option.some.inj H
  go_enter Tryz.func21, Tryz.ntmps21
  go_wp2_with (first | ((with_reducible refine gate_dst (N := 1) rfl ?_); refine box_event ?hg (N := 1) ?hd (cs := #[.string a0_0, .string a0_1, .string a0_2, .string a0_3, .string a0_4, .string a0_5]) (t := 51) ?hr ?_; (case hd => rfl); (case hg => rfl); (case hr => first | (go_simp; done) | (go_simp; rfl)); intro gb151 hg w2 hbox hb; have n0_ := Aside0.mk (below_step (by repeat (first | (with_reducible first | exact HB.out | apply below_alloc | apply pw_below_drewN | apply below_drew1) | exact HB.out)) hb); have n1_ := Aside0.mk (hbox); have n2_ := Aside0.mk ((by rw [hg]; exact (below_size (by repeat (first | (with_reducible first | exact HB.out | apply below_alloc | apply pw_below_drewN | apply below_drew1) | exact HB.out))) : w.heap.size ≤ gb151)); have n3_ := Aside0.mk ((by rw [hg]; exact (below_size (by repeat (first | (with_reducible first | exact HB.out | apply below_alloc | apply pw_below_drewN | apply below_drew1) | exact HB.out))) : w.heap.size ≤ gb151)); clear HB; have HB := n0_; have BK151 := n1_; have GW151 := n2_; have GE151 := n3_; clear n0_ n1_ n2_ n3_; clear hb hbox hg; have hcz3_0 : w2.cell? ⟨gb151, 0, none⟩ = some (.string a0_0) := (blk_cell BK151.out 0).trans rfl; have hcz3_1 : w2.cell? ⟨gb151, 1, none⟩ = some (.string a0_1) := (blk_cell BK151.out 1).trans rfl; have hcz3_2 : w2.cell? ⟨gb151, 2, none⟩ = some (.string a0_2) := (blk_cell BK151.out 2).trans rfl; have hcz3_3 : w2.cell? ⟨gb151, 3, none⟩ = some (.string a0_3) := (blk_cell BK151.out 3).trans rfl; have hcz3_4 : w2.cell? ⟨gb151, 4, none⟩ = some (.string a0_4) := (blk_cell BK151.out 4).trans rfl; have hcz3_5 : w2.cell? ⟨gb151, 5, none⟩ = some (.string a0_5) := (blk_cell BK151.out 5).trans rfl; have hfz3_0 := blk_frozen BK151.out 0; have hfz3_1 := blk_frozen BK151.out 1; have hfz3_2 := blk_frozen BK151.out 2; have hfz3_3 := blk_frozen BK151.out 3; have hfz3_4 := blk_frozen BK151.out 4; have hfz3_5 := blk_frozen BK151.out 5) | ((with_reducible refine gate_dst (N := 18) rfl ?_); refine Kd.R_lit Kd.string _ 9 ?hg (N := 18) ?hd (xs := ([a0_0, a0_1, a0_2, a0_3, a0_4, a0_5] : List ByteArray)) (inner := [.string a0_0, .string a0_1, .string a0_2, .string a0_3, .string a0_4, .string a0_5]) (ok := fun _ => True) (okp := fun _ => True) ?hr ?hp (fun _ hk => hk) trivial (Below.refl _ _) (Nat.le_refl _) (by simp) ?_; (case hd => rfl); (case hg => rfl); (case hr => first | (go_simp; done) | (go_simp; rfl)); (case hp => exact (Reps.one (show Kd.M Kd.string _ _ _ a0_0 [.string a0_0] from rfl) (Reps.one (show Kd.M Kd.string _ _ _ a0_1 [.string a0_1] from rfl) (Reps.one (show Kd.M Kd.string _ _ _ a0_2 [.string a0_2] from rfl) (Reps.one (show Kd.M Kd.string _ _ _ a0_3 [.string a0_3] from rfl) (Reps.one (show Kd.M Kd.string _ _ _ a0_4 [.string a0_4] from rfl) (Reps.one (show Kd.M Kd.string _ _ _ a0_5 [.string a0_5] from rfl) (Reps.none _ _)))))))); intro v153 w4 ho5 hb hg_ hnew_; clear hg_ hnew_; (first | rw [← Ny152.out] at ho5 | (simp only [Int.reduceToNat] at ho5; rw [← Ny152.out] at ho5)); have n0_ := Aside0.mk (Kd.R_lower ho5 (below_size (by repeat (first | (with_reducible first | exact HB.out | apply below_alloc | apply pw_below_drewN | apply below_drew1 | refine below_set ?_ GE151.out) | exact HB.out)))); have n1_ := Aside0.mk (blk_below (g := gb151) (o := .cells #[.string a0_0, .string a0_1, .string a0_2, .string a0_3, .string a0_4, .string a0_5] 51 (0, 0)) (by (with_reducible repeat (first | refine blk_drewN ?_ _ | refine blk_drew ?_ | refine blk_alloc ?_ _)); exact BK151.out) hb); have n2_ := Aside0.mk (below_step (by repeat (first | (with_reducible first | exact HB.out | apply below_alloc | apply pw_below_drewN | apply below_drew1 | refine below_set ?_ GE151.out) | exact HB.out)) hb); clear BK151; clear HB; have HO154 := n0_; have BK151 := n1_; have HB := n2_; clear n0_ n1_ n2_; clear hb ho5))
  go_ret
  exact ⟨_, by first | rfl | (simp [errW_none, errW_some] <;> rfl) | (simp [*, errW_none, errW_some] <;> rfl), by (with_reducible repeat (first | apply Kd.R_alloc | apply Kd.R_drewN | apply Kd.R_drew)); exact HO154.out, by repeat (first | (with_reducible first | exact HB.out | apply below_alloc | apply pw_below_drewN | apply below_drew1 | refine below_set ?_ GE151.out) | exact HB.out)⟩

/-! ### lunetteref20_Few: function 9 -/
mutual
def lunetteref20_Few.l0 : Nat → List (S29) → Int → Option (Bool)
  | 0, _, _ => none
  | k + 1, x0, x3 => if x3 < (x0.length : Int) then (if 0 ≤ x3 then (if (((rd_T29 x0 x3).f1).length : Int) > 20 then (lunetteref20_Few.j1 k x0 x3 true) else (if (((rd_T29 x0 x3).f2).length : Int) > 20 then (lunetteref20_Few.j1 k x0 x3 true) else (if (((rd_T29 x0 x3).f4).size : Int) > 300 then (lunetteref20_Few.j1 k x0 x3 true) else (if (((rd_T29 x0 x3).f0).size : Int) > 100 then (lunetteref20_Few.j1 k x0 x3 true) else (lunetteref20_Few.j1 k x0 x3 (decide ((((rd_T29 x0 x3).f3).size : Int) > 100))))))) else (none)) else (some true)
def lunetteref20_Few.j1 : Nat → List (S29) → Int → Bool → Option (Bool)
  | 0, _, _, _ => none
  | k + 1, x0, x3, x58 => if x58 = true then (some false) else (lunetteref20_Few.l1 k x0 x3 0)
def lunetteref20_Few.l1 : Nat → List (S29) → Int → Int → Option (Bool)
  | 0, _, _, _ => none
  | k + 1, x0, x3, x4 => if 0 ≤ x3 then (if x3 < (x0.length : Int) then (if x4 < (((rd_T29 x0 x3).f2).length : Int) then (if 0 ≤ x4 then ((lunetteref11_Parts.f ((rd_T51 ((rd_T29 x0 x3).f2) x4).f0) ((rd_T51 ((rd_T29 x0 x3).f2) x4).f1) ((rd_T51 ((rd_T29 x0 x3).f2) x4).f2) ((rd_T51 ((rd_T29 x0 x3).f2) x4).f3.f0) ((rd_T51 ((rd_T29 x0 x3).f2) x4).f3.f1) ((rd_T51 ((rd_T29 x0 x3).f2) x4).f3.f2)).bind fun t163 => (lunetteref20_Few.l2 k x0 x3 x4 t163 0)) else (none)) else (lunetteref20_Few.l0 k x0 (wrap64 (x3 + 1)))) else (none)) else (none)
def lunetteref20_Few.l2 : Nat → List (S29) → Int → Int → List ByteArray → Int → Option (Bool)
  | 0, _, _, _, _, _ => none
  | k + 1, x0, x3, x4, x5, x6 => if x6 < (x5.length : Int) then (if 0 ≤ x6 then (if ((rdOf ByteArray.empty x5 x6).size : Int) > 100 then (some false) else (lunetteref20_Few.l2 k x0 x3 x4 x5 (wrap64 (x6 + 1)))) else (none)) else (lunetteref20_Few.l1 k x0 x3 (wrap64 (x4 + 1)))
end
def lunetteref20_Few.f (k : Nat) (l0 : List (S29)) : Option (Bool) := if (l0.length : Int) > 60 then (some false) else (lunetteref20_Few.l0 k l0 0)
theorem lunetteref20_Few.mono_l : ∀ k, (∀ y0 y1, LeO (lunetteref20_Few.l0 k y0 y1) (lunetteref20_Few.l0 (k + 1) y0 y1)) ∧ (∀ y0 y1 y2, LeO (lunetteref20_Few.j1 k y0 y1 y2) (lunetteref20_Few.j1 (k + 1) y0 y1 y2)) ∧ (∀ y0 y1 y2, LeO (lunetteref20_Few.l1 k y0 y1 y2) (lunetteref20_Few.l1 (k + 1) y0 y1 y2)) ∧ (∀ y0 y1 y2 y3 y4, LeO (lunetteref20_Few.l2 k y0 y1 y2 y3 y4) (lunetteref20_Few.l2 (k + 1) y0 y1 y2 y3 y4))
  | 0 => ⟨fun _ _ r h => by simp [lunetteref20_Few.l0] at h, fun _ _ _ r h => by simp [lunetteref20_Few.j1] at h, fun _ _ _ r h => by simp [lunetteref20_Few.l1] at h, fun _ _ _ _ _ r h => by simp [lunetteref20_Few.l2] at h⟩
  | k + 1 => by
    obtain ⟨ih0, ih1, ih2, ih3⟩ := lunetteref20_Few.mono_l k
    refine ⟨?_, ?_, ?_, ?_⟩
    · intro y0 y1
      unfold lunetteref20_Few.l0
      repeat' first
      | (with_reducible exact ih0 _ _)
      | (with_reducible exact ih1 _ _ _)
      | (with_reducible exact ih2 _ _ _)
      | (with_reducible exact ih3 _ _ _ _ _)
      | (with_reducible exact LeO.refl _)
      | (with_reducible exact LeO.none _)
      | (with_reducible refine LeO.ite ?_ ?_)
      | (with_reducible refine LeO.bind ?_ (fun _ => ?_))
      | exact ih0 _ _
      | exact ih1 _ _ _
      | exact ih2 _ _ _
      | exact ih3 _ _ _ _ _
      | exact LeO.none _
      | refine LeO.ite ?_ ?_
      | refine LeO.bind ?_ (fun _ => ?_)
    · intro y0 y1 y2
      unfold lunetteref20_Few.j1
      repeat' first
      | (with_reducible exact ih0 _ _)
      | (with_reducible exact ih1 _ _ _)
      | (with_reducible exact ih2 _ _ _)
      | (with_reducible exact ih3 _ _ _ _ _)
      | (with_reducible exact LeO.refl _)
      | (with_reducible exact LeO.none _)
      | (with_reducible refine LeO.ite ?_ ?_)
      | (with_reducible refine LeO.bind ?_ (fun _ => ?_))
      | exact ih0 _ _
      | exact ih1 _ _ _
      | exact ih2 _ _ _
      | exact ih3 _ _ _ _ _
      | exact LeO.none _
      | refine LeO.ite ?_ ?_
      | refine LeO.bind ?_ (fun _ => ?_)
    · intro y0 y1 y2
      unfold lunetteref20_Few.l1
      repeat' first
      | (with_reducible exact ih0 _ _)
      | (with_reducible exact ih1 _ _ _)
      | (with_reducible exact ih2 _ _ _)
      | (with_reducible exact ih3 _ _ _ _ _)
      | (with_reducible exact LeO.refl _)
      | (with_reducible exact LeO.none _)
      | (with_reducible refine LeO.ite ?_ ?_)
      | (with_reducible refine LeO.bind ?_ (fun _ => ?_))
      | exact ih0 _ _
      | exact ih1 _ _ _
      | exact ih2 _ _ _
      | exact ih3 _ _ _ _ _
      | exact LeO.none _
      | refine LeO.ite ?_ ?_
      | refine LeO.bind ?_ (fun _ => ?_)
    · intro y0 y1 y2 y3 y4
      unfold lunetteref20_Few.l2
      repeat' first
      | (with_reducible exact ih0 _ _)
      | (with_reducible exact ih1 _ _ _)
      | (with_reducible exact ih2 _ _ _)
      | (with_reducible exact ih3 _ _ _ _ _)
      | (with_reducible exact LeO.refl _)
      | (with_reducible exact LeO.none _)
      | (with_reducible refine LeO.ite ?_ ?_)
      | (with_reducible refine LeO.bind ?_ (fun _ => ?_))
      | exact ih0 _ _
      | exact ih1 _ _ _
      | exact ih2 _ _ _
      | exact ih3 _ _ _ _ _
      | exact LeO.none _
      | refine LeO.ite ?_ ?_
      | refine LeO.bind ?_ (fun _ => ?_)
theorem lunetteref20_Few.mono : ∀ a0 k, LeO (lunetteref20_Few.f k a0) (lunetteref20_Few.f (k + 1) a0) := by
  intro a0 k
  obtain ⟨ih0, ih1, ih2, ih3⟩ := lunetteref20_Few.mono_l k
  unfold lunetteref20_Few.f
  repeat' first
      | (with_reducible exact ih0 _ _)
      | (with_reducible exact ih1 _ _ _)
      | (with_reducible exact ih2 _ _ _)
      | (with_reducible exact ih3 _ _ _ _ _)
      | (with_reducible exact LeO.refl _)
      | (with_reducible exact LeO.none _)
      | (with_reducible refine LeO.ite ?_ ?_)
      | (with_reducible refine LeO.bind ?_ (fun _ => ?_))
      | exact ih0 _ _
      | exact ih1 _ _ _
      | exact ih2 _ _ _
      | exact ih3 _ _ _ _ _
      | exact LeO.none _
      | refine LeO.ite ?_ ?_
      | refine LeO.bind ?_ (fun _ => ?_)
set_option maxHeartbeats 8000000 in
set_option maxRecDepth 100000 in
theorem lunetteref20_Few.calls (k : Nat) (A0 : Option Addr) (c0 : Nat) (l0 : List (S29)) (r : Bool) (w : World) (hr0 : Kd.C k29 w A0 l0.length l0) (hc0 : l0.length ≤ c0) (h : lunetteref20_Few.f k l0 = some r) :
    Calls Tryz.prog 9 #[.slice A0 l0.length c0] w fun e w' => e = .returned (.bool r) ∧ Below w.heap.size w w' := by
  have hu51 := Tryz.underlying51
  have HR0 := Aside0.mk hr0
  have HC0 := Aside0.mk hc0
  clear hr0 hc0
  have HB := Aside0.mk (Below.refl w.heap.size w)
  have H : (if (l0.length : Int) > 60 then (some false) else (lunetteref20_Few.l0 k l0 0)) = some r := h
  clear h
  by_cases c2 : (l0.length : Int) > 60
  · rw [if_pos c2] at H
    have c2b0 : decide (60 < (l0.length : Int)) = true := decide_eq_true c2
    have c2b1 : decide (60 < l0.length) = true := decide_eq_true (by omega)
    clear c2
    obtain rfl := Option.some.inj H
    go_enter Tryz.func9, Tryz.ntmps9
    go_wp2
    go_ret
    exact ⟨by first | rfl | (simp [errW_none, errW_some] <;> rfl) | (simp [*, errW_none, errW_some] <;> rfl), by repeat (first | (with_reducible first | exact HB.out | apply below_alloc | apply pw_below_drewN | apply below_drew1) | exact HB.out)⟩
  · rw [if_neg c2] at H
    have c2b0 : decide (60 < (l0.length : Int)) = false := decide_eq_false c2
    have c2b1 : decide (60 < l0.length) = false := decide_eq_false (by omega)
    clear c2
    have H' := Aside0.mk H
    clear H
    go_enter Tryz.func9, Tryz.ntmps9
    go_wp2
    go_loopg [3] k (fun kq v3 w' => ∃ (x3_1 : Int), v3 = .int .i64 x3_1 ∧ Aside0 (lunetteref20_Few.l0 kq l0 x3_1 = some r) ∧ Aside0 (kq ≤ k) ∧ Aside0 (Below w.heap.size w w'))
    case atStart => exact ⟨(0), (by first | rfl | (simp; done) | (simp [*]; done)), H', ⟨Nat.le_refl _⟩, ⟨by repeat (first | (with_reducible first | exact HB.out | apply below_alloc | apply pw_below_drewN | apply below_drew1) | exact HB.out)⟩⟩
    case round =>
      clear H'
      try clear c2
      try clear c2b0
      try clear c2b1
      try clear p2
      obtain ⟨x3_1, rfl, HA, HK1, HB⟩ := hrel
      cases gk with
      | zero => exact absurd HA.out (by simp [lunetteref20_Few.l0])
      | succ k1 =>
        have H := HA.out
        clear HA
        simp only [lunetteref20_Few.l0] at H
        by_cases c3 : x3_1 < (l0.length : Int)
        · rw [if_pos c3] at H
          have c3b0 : decide (x3_1 < (l0.length : Int)) = true := decide_eq_true c3
          clear c3
          have HC4 := Aside0.mk H
          clear H
          go_upto_region 6 with (fail)
          go_cut [58] (fun v58 wc => ∃ (kq : Nat) (x58_3 : Bool), v58 = .bool x58_3 ∧ Aside0 (lunetteref20_Few.j1 kq l0 x3_1 x58_3 = some r) ∧ Aside0 (kq ≤ k1) ∧ Aside0 (Below w.heap.size w wc))
          case first =>
            have H := HC4.out
            clear HC4
            by_cases c5 : 0 ≤ x3_1
            · rw [if_pos c5] at H
              have c5b0 : decide (0 ≤ x3_1) = true := decide_eq_true c5
              clear c5
              (first | rw [c5b0] | (simp only [i64_w, i32_w]; rw [c5b0]) | skip)
              by_cases c6 : (((rd_T29 l0 x3_1).f1).length : Int) > 20
              · rw [if_pos c6] at H
                have c6b0 : decide (20 < (((rd_T29 l0 x3_1).f1).length : Int)) = true := decide_eq_true c6
                have c6b1 : decide (20 < ((rd_T29 l0 x3_1).f1).length) = true := decide_eq_true (by omega)
                clear c6
                have H' := Aside0.mk H
                clear H
                have p155 : 0 ≤ (x3_1 : Int) := of_decide_eq_true (by first | (with_reducible assumption) | assumption)
                have q155 : x3_1 < (l0.length : Int) := of_decide_eq_true (by first | (with_reducible assumption) | assumption)
                obtain ⟨ad155, A155_1, c155_1, A155_2, c155_2, e155, hx155_0, hx155_1, hx155_2, hx155_3, hx155_4, hl155_1, hi155_1, hl155_2, hi155_2⟩ := at_T29 HR0.out x3_1 p155 q155
                cases e155
                replace hx155_0 := (HB.out.cell (World.block_lt_of_cell? w _ hx155_0)).trans hx155_0
                replace hx155_1 := (HB.out.cell (World.block_lt_of_cell? w _ hx155_1)).trans hx155_1
                replace hx155_2 := (HB.out.cell (World.block_lt_of_cell? w _ hx155_2)).trans hx155_2
                replace hx155_3 := (HB.out.cell (World.block_lt_of_cell? w _ hx155_3)).trans hx155_3
                replace hx155_4 := (HB.out.cell (World.block_lt_of_cell? w _ hx155_4)).trans hx155_4
                have HR155_1 := Aside0.mk hi155_1
                have HC155_1 := Aside0.mk hl155_1
                clear hi155_1 hl155_1
                have HR155_2 := Aside0.mk hi155_2
                have HC155_2 := Aside0.mk hl155_2
                clear hi155_2 hl155_2
                replace p155 := eq_true p155
                replace q155 := eq_true q155
                go_wp2
                go_meet
                case rel => exact ⟨_, (true), (by first | rfl | (simp; done) | (simp [*]; done)), H', ⟨by have := HK1.out; first | omega | exact Nat.le_refl _⟩, ⟨by repeat (first | (with_reducible first | exact HB.out | apply below_alloc | apply pw_below_drewN | apply below_drew1) | exact HB.out)⟩⟩
              · rw [if_neg c6] at H
                have c6b0 : decide (20 < (((rd_T29 l0 x3_1).f1).length : Int)) = false := decide_eq_false c6
                have c6b1 : decide (20 < ((rd_T29 l0 x3_1).f1).length) = false := decide_eq_false (by omega)
                clear c6
                by_cases c7 : (((rd_T29 l0 x3_1).f2).length : Int) > 20
                · rw [if_pos c7] at H
                  have c7b0 : decide (20 < (((rd_T29 l0 x3_1).f2).length : Int)) = true := decide_eq_true c7
                  have c7b1 : decide (20 < ((rd_T29 l0 x3_1).f2).length) = true := decide_eq_true (by omega)
                  clear c7
                  have H' := Aside0.mk H
                  clear H
                  have p155 : 0 ≤ (x3_1 : Int) := of_decide_eq_true (by first | (with_reducible assumption) | assumption)
                  have q155 : x3_1 < (l0.length : Int) := of_decide_eq_true (by first | (with_reducible assumption) | assumption)
                  obtain ⟨ad155, A155_1, c155_1, A155_2, c155_2, e155, hx155_0, hx155_1, hx155_2, hx155_3, hx155_4, hl155_1, hi155_1, hl155_2, hi155_2⟩ := at_T29 HR0.out x3_1 p155 q155
                  cases e155
                  replace hx155_0 := (HB.out.cell (World.block_lt_of_cell? w _ hx155_0)).trans hx155_0
                  replace hx155_1 := (HB.out.cell (World.block_lt_of_cell? w _ hx155_1)).trans hx155_1
                  replace hx155_2 := (HB.out.cell (World.block_lt_of_cell? w _ hx155_2)).trans hx155_2
                  replace hx155_3 := (HB.out.cell (World.block_lt_of_cell? w _ hx155_3)).trans hx155_3
                  replace hx155_4 := (HB.out.cell (World.block_lt_of_cell? w _ hx155_4)).trans hx155_4
                  have HR155_1 := Aside0.mk hi155_1
                  have HC155_1 := Aside0.mk hl155_1
                  clear hi155_1 hl155_1
                  have HR155_2 := Aside0.mk hi155_2
                  have HC155_2 := Aside0.mk hl155_2
                  clear hi155_2 hl155_2
                  replace p155 := eq_true p155
                  replace q155 := eq_true q155
                  have p156 : 0 ≤ (x3_1 : Int) := of_decide_eq_true (by first | (with_reducible assumption) | assumption)
                  have q156 : x3_1 < (l0.length : Int) := of_decide_eq_true (by first | (with_reducible assumption) | assumption)
                  obtain ⟨ad156, A156_1, c156_1, A156_2, c156_2, e156, hx156_0, hx156_1, hx156_2, hx156_3, hx156_4, hl156_1, hi156_1, hl156_2, hi156_2⟩ := at_T29 HR0.out x3_1 p156 q156
                  obtain rfl : ad155 = ad156 := (by injection e156)
                  replace hx156_0 := (HB.out.cell (World.block_lt_of_cell? w _ hx156_0)).trans hx156_0
                  replace hx156_1 := (HB.out.cell (World.block_lt_of_cell? w _ hx156_1)).trans hx156_1
                  replace hx156_2 := (HB.out.cell (World.block_lt_of_cell? w _ hx156_2)).trans hx156_2
                  replace hx156_3 := (HB.out.cell (World.block_lt_of_cell? w _ hx156_3)).trans hx156_3
                  replace hx156_4 := (HB.out.cell (World.block_lt_of_cell? w _ hx156_4)).trans hx156_4
                  have HR156_1 := Aside0.mk hi156_1
                  have HC156_1 := Aside0.mk hl156_1
                  clear hi156_1 hl156_1
                  have HR156_2 := Aside0.mk hi156_2
                  have HC156_2 := Aside0.mk hl156_2
                  clear hi156_2 hl156_2
                  replace p156 := eq_true p156
                  replace q156 := eq_true q156
                  have ea_ := Option.some.inj (hx155_1.symm.trans hx156_1)
                  injection ea_ with ea_ en_ ec_
                  subst ea_
                  subst ec_
                  clear en_
                  have ea_ := Option.some.inj (hx155_2.symm.trans hx156_2)
                  injection ea_ with ea_ en_ ec_
                  subst ea_
                  subst ec_
                  clear en_
                  go_wp2
                  go_meet
                  case rel => exact ⟨_, (true), (by first | rfl | (simp; done) | (simp [*]; done)), H', ⟨by have := HK1.out; first | omega | exact Nat.le_refl _⟩, ⟨by repeat (first | (with_reducible first | exact HB.out | apply below_alloc | apply pw_below_drewN | apply below_drew1) | exact HB.out)⟩⟩
                · rw [if_neg c7] at H
                  have c7b0 : decide (20 < (((rd_T29 l0 x3_1).f2).length : Int)) = false := decide_eq_false c7
                  have c7b1 : decide (20 < ((rd_T29 l0 x3_1).f2).length) = false := decide_eq_false (by omega)
                  clear c7
                  by_cases c8 : (((rd_T29 l0 x3_1).f4).size : Int) > 300
                  · rw [if_pos c8] at H
                    have c8b0 : decide (300 < (((rd_T29 l0 x3_1).f4).size : Int)) = true := decide_eq_true c8
                    have c8b1 : decide (300 < ((rd_T29 l0 x3_1).f4).size) = true := decide_eq_true (by omega)
                    clear c8
                    have H' := Aside0.mk H
                    clear H
                    have p155 : 0 ≤ (x3_1 : Int) := of_decide_eq_true (by first | (with_reducible assumption) | assumption)
                    have q155 : x3_1 < (l0.length : Int) := of_decide_eq_true (by first | (with_reducible assumption) | assumption)
                    obtain ⟨ad155, A155_1, c155_1, A155_2, c155_2, e155, hx155_0, hx155_1, hx155_2, hx155_3, hx155_4, hl155_1, hi155_1, hl155_2, hi155_2⟩ := at_T29 HR0.out x3_1 p155 q155
                    cases e155
                    replace hx155_0 := (HB.out.cell (World.block_lt_of_cell? w _ hx155_0)).trans hx155_0
                    replace hx155_1 := (HB.out.cell (World.block_lt_of_cell? w _ hx155_1)).trans hx155_1
                    replace hx155_2 := (HB.out.cell (World.block_lt_of_cell? w _ hx155_2)).trans hx155_2
                    replace hx155_3 := (HB.out.cell (World.block_lt_of_cell? w _ hx155_3)).trans hx155_3
                    replace hx155_4 := (HB.out.cell (World.block_lt_of_cell? w _ hx155_4)).trans hx155_4
                    have HR155_1 := Aside0.mk hi155_1
                    have HC155_1 := Aside0.mk hl155_1
                    clear hi155_1 hl155_1
                    have HR155_2 := Aside0.mk hi155_2
                    have HC155_2 := Aside0.mk hl155_2
                    clear hi155_2 hl155_2
                    replace p155 := eq_true p155
                    replace q155 := eq_true q155
                    have p156 : 0 ≤ (x3_1 : Int) := of_decide_eq_true (by first | (with_reducible assumption) | assumption)
                    have q156 : x3_1 < (l0.length : Int) := of_decide_eq_true (by first | (with_reducible assumption) | assumption)
                    obtain ⟨ad156, A156_1, c156_1, A156_2, c156_2, e156, hx156_0, hx156_1, hx156_2, hx156_3, hx156_4, hl156_1, hi156_1, hl156_2, hi156_2⟩ := at_T29 HR0.out x3_1 p156 q156
                    obtain rfl : ad155 = ad156 := (by injection e156)
                    replace hx156_0 := (HB.out.cell (World.block_lt_of_cell? w _ hx156_0)).trans hx156_0
                    replace hx156_1 := (HB.out.cell (World.block_lt_of_cell? w _ hx156_1)).trans hx156_1
                    replace hx156_2 := (HB.out.cell (World.block_lt_of_cell? w _ hx156_2)).trans hx156_2
                    replace hx156_3 := (HB.out.cell (World.block_lt_of_cell? w _ hx156_3)).trans hx156_3
                    replace hx156_4 := (HB.out.cell (World.block_lt_of_cell? w _ hx156_4)).trans hx156_4
                    have HR156_1 := Aside0.mk hi156_1
                    have HC156_1 := Aside0.mk hl156_1
                    clear hi156_1 hl156_1
                    have HR156_2 := Aside0.mk hi156_2
                    have HC156_2 := Aside0.mk hl156_2
                    clear hi156_2 hl156_2
                    replace p156 := eq_true p156
                    replace q156 := eq_true q156
                    have ea_ := Option.some.inj (hx155_1.symm.trans hx156_1)
                    injection ea_ with ea_ en_ ec_
                    subst ea_
                    subst ec_
                    clear en_
                    have ea_ := Option.some.inj (hx155_2.symm.trans hx156_2)
                    injection ea_ with ea_ en_ ec_
                    subst ea_
                    subst ec_
                    clear en_
                    have p157 : 0 ≤ (x3_1 : Int) := of_decide_eq_true (by first | (with_reducible assumption) | assumption)
                    have q157 : x3_1 < (l0.length : Int) := of_decide_eq_true (by first | (with_reducible assumption) | assumption)
                    obtain ⟨ad157, A157_1, c157_1, A157_2, c157_2, e157, hx157_0, hx157_1, hx157_2, hx157_3, hx157_4, hl157_1, hi157_1, hl157_2, hi157_2⟩ := at_T29 HR0.out x3_1 p157 q157
                    obtain rfl : ad155 = ad157 := (by injection e157)
                    replace hx157_0 := (HB.out.cell (World.block_lt_of_cell? w _ hx157_0)).trans hx157_0
                    replace hx157_1 := (HB.out.cell (World.block_lt_of_cell? w _ hx157_1)).trans hx157_1
                    replace hx157_2 := (HB.out.cell (World.block_lt_of_cell? w _ hx157_2)).trans hx157_2
                    replace hx157_3 := (HB.out.cell (World.block_lt_of_cell? w _ hx157_3)).trans hx157_3
                    replace hx157_4 := (HB.out.cell (World.block_lt_of_cell? w _ hx157_4)).trans hx157_4
                    have HR157_1 := Aside0.mk hi157_1
                    have HC157_1 := Aside0.mk hl157_1
                    clear hi157_1 hl157_1
                    have HR157_2 := Aside0.mk hi157_2
                    have HC157_2 := Aside0.mk hl157_2
                    clear hi157_2 hl157_2
                    replace p157 := eq_true p157
                    replace q157 := eq_true q157
                    have ea_ := Option.some.inj (hx155_1.symm.trans hx157_1)
                    injection ea_ with ea_ en_ ec_
                    subst ea_
                    subst ec_
                    clear en_
                    have ea_ := Option.some.inj (hx155_2.symm.trans hx157_2)
                    injection ea_ with ea_ en_ ec_
                    subst ea_
                    subst ec_
                    clear en_
                    go_wp2
                    go_meet
                    case rel => exact ⟨_, (true), (by first | rfl | (simp; done) | (simp [*]; done)), H', ⟨by have := HK1.out; first | omega | exact Nat.le_refl _⟩, ⟨by repeat (first | (with_reducible first | exact HB.out | apply below_alloc | apply pw_below_drewN | apply below_drew1) | exact HB.out)⟩⟩
                  · rw [if_neg c8] at H
                    have c8b0 : decide (300 < (((rd_T29 l0 x3_1).f4).size : Int)) = false := decide_eq_false c8
                    have c8b1 : decide (300 < ((rd_T29 l0 x3_1).f4).size) = false := decide_eq_false (by omega)
                    clear c8
                    by_cases c9 : (((rd_T29 l0 x3_1).f0).size : Int) > 100
                    · rw [if_pos c9] at H
                      have c9b0 : decide (100 < (((rd_T29 l0 x3_1).f0).size : Int)) = true := decide_eq_true c9
                      have c9b1 : decide (100 < ((rd_T29 l0 x3_1).f0).size) = true := decide_eq_true (by omega)
                      clear c9
                      have H' := Aside0.mk H
                      clear H
                      have p155 : 0 ≤ (x3_1 : Int) := of_decide_eq_true (by first | (with_reducible assumption) | assumption)
                      have q155 : x3_1 < (l0.length : Int) := of_decide_eq_true (by first | (with_reducible assumption) | assumption)
                      obtain ⟨ad155, A155_1, c155_1, A155_2, c155_2, e155, hx155_0, hx155_1, hx155_2, hx155_3, hx155_4, hl155_1, hi155_1, hl155_2, hi155_2⟩ := at_T29 HR0.out x3_1 p155 q155
                      cases e155
                      replace hx155_0 := (HB.out.cell (World.block_lt_of_cell? w _ hx155_0)).trans hx155_0
                      replace hx155_1 := (HB.out.cell (World.block_lt_of_cell? w _ hx155_1)).trans hx155_1
                      replace hx155_2 := (HB.out.cell (World.block_lt_of_cell? w _ hx155_2)).trans hx155_2
                      replace hx155_3 := (HB.out.cell (World.block_lt_of_cell? w _ hx155_3)).trans hx155_3
                      replace hx155_4 := (HB.out.cell (World.block_lt_of_cell? w _ hx155_4)).trans hx155_4
                      have HR155_1 := Aside0.mk hi155_1
                      have HC155_1 := Aside0.mk hl155_1
                      clear hi155_1 hl155_1
                      have HR155_2 := Aside0.mk hi155_2
                      have HC155_2 := Aside0.mk hl155_2
                      clear hi155_2 hl155_2
                      replace p155 := eq_true p155
                      replace q155 := eq_true q155
                      have p156 : 0 ≤ (x3_1 : Int) := of_decide_eq_true (by first | (with_reducible assumption) | assumption)
                      have q156 : x3_1 < (l0.length : Int) := of_decide_eq_true (by first | (with_reducible assumption) | assumption)
                      obtain ⟨ad156, A156_1, c156_1, A156_2, c156_2, e156, hx156_0, hx156_1, hx156_2, hx156_3, hx156_4, hl156_1, hi156_1, hl156_2, hi156_2⟩ := at_T29 HR0.out x3_1 p156 q156
                      obtain rfl : ad155 = ad156 := (by injection e156)
                      replace hx156_0 := (HB.out.cell (World.block_lt_of_cell? w _ hx156_0)).trans hx156_0
                      replace hx156_1 := (HB.out.cell (World.block_lt_of_cell? w _ hx156_1)).trans hx156_1
                      replace hx156_2 := (HB.out.cell (World.block_lt_of_cell? w _ hx156_2)).trans hx156_2
                      replace hx156_3 := (HB.out.cell (World.block_lt_of_cell? w _ hx156_3)).trans hx156_3
                      replace hx156_4 := (HB.out.cell (World.block_lt_of_cell? w _ hx156_4)).trans hx156_4
                      have HR156_1 := Aside0.mk hi156_1
                      have HC156_1 := Aside0.mk hl156_1
                      clear hi156_1 hl156_1
                      have HR156_2 := Aside0.mk hi156_2
                      have HC156_2 := Aside0.mk hl156_2
                      clear hi156_2 hl156_2
                      replace p156 := eq_true p156
                      replace q156 := eq_true q156
                      have ea_ := Option.some.inj (hx155_1.symm.trans hx156_1)
                      injection ea_ with ea_ en_ ec_
                      subst ea_
                      subst ec_
                      clear en_
                      have ea_ := Option.some.inj (hx155_2.symm.trans hx156_2)
                      injection ea_ with ea_ en_ ec_
                      subst ea_
                      subst ec_
                      clear en_
                      have p157 : 0 ≤ (x3_1 : Int) := of_decide_eq_true (by first | (with_reducible assumption) | assumption)
                      have q157 : x3_1 < (l0.length : Int) := of_decide_eq_true (by first | (with_reducible assumption) | assumption)
                      obtain ⟨ad157, A157_1, c157_1, A157_2, c157_2, e157, hx157_0, hx157_1, hx157_2, hx157_3, hx157_4, hl157_1, hi157_1, hl157_2, hi157_2⟩ := at_T29 HR0.out x3_1 p157 q157
                      obtain rfl : ad155 = ad157 := (by injection e157)
                      replace hx157_0 := (HB.out.cell (World.block_lt_of_cell? w _ hx157_0)).trans hx157_0
                      replace hx157_1 := (HB.out.cell (World.block_lt_of_cell? w _ hx157_1)).trans hx157_1
                      replace hx157_2 := (HB.out.cell (World.block_lt_of_cell? w _ hx157_2)).trans hx157_2
                      replace hx157_3 := (HB.out.cell (World.block_lt_of_cell? w _ hx157_3)).trans hx157_3
                      replace hx157_4 := (HB.out.cell (World.block_lt_of_cell? w _ hx157_4)).trans hx157_4
                      have HR157_1 := Aside0.mk hi157_1
                      have HC157_1 := Aside0.mk hl157_1
                      clear hi157_1 hl157_1
                      have HR157_2 := Aside0.mk hi157_2
                      have HC157_2 := Aside0.mk hl157_2
                      clear hi157_2 hl157_2
                      replace p157 := eq_true p157
                      replace q157 := eq_true q157
                      have ea_ := Option.some.inj (hx155_1.symm.trans hx157_1)
                      injection ea_ with ea_ en_ ec_
                      subst ea_
                      subst ec_
                      clear en_
                      have ea_ := Option.some.inj (hx155_2.symm.trans hx157_2)
                      injection ea_ with ea_ en_ ec_
                      subst ea_
                      subst ec_
                      clear en_
                      have p158 : 0 ≤ (x3_1 : Int) := of_decide_eq_true (by first | (with_reducible assumption) | assumption)
                      have q158 : x3_1 < (l0.length : Int) := of_decide_eq_true (by first | (with_reducible assumption) | assumption)
                      obtain ⟨ad158, A158_1, c158_1, A158_2, c158_2, e158, hx158_0, hx158_1, hx158_2, hx158_3, hx158_4, hl158_1, hi158_1, hl158_2, hi158_2⟩ := at_T29 HR0.out x3_1 p158 q158
                      obtain rfl : ad155 = ad158 := (by injection e158)
                      replace hx158_0 := (HB.out.cell (World.block_lt_of_cell? w _ hx158_0)).trans hx158_0
                      replace hx158_1 := (HB.out.cell (World.block_lt_of_cell? w _ hx158_1)).trans hx158_1
                      replace hx158_2 := (HB.out.cell (World.block_lt_of_cell? w _ hx158_2)).trans hx158_2
                      replace hx158_3 := (HB.out.cell (World.block_lt_of_cell? w _ hx158_3)).trans hx158_3
                      replace hx158_4 := (HB.out.cell (World.block_lt_of_cell? w _ hx158_4)).trans hx158_4
                      have HR158_1 := Aside0.mk hi158_1
                      have HC158_1 := Aside0.mk hl158_1
                      clear hi158_1 hl158_1
                      have HR158_2 := Aside0.mk hi158_2
                      have HC158_2 := Aside0.mk hl158_2
                      clear hi158_2 hl158_2
                      replace p158 := eq_true p158
                      replace q158 := eq_true q158
                      have ea_ := Option.some.inj (hx155_1.symm.trans hx158_1)
                      injection ea_ with ea_ en_ ec_
                      subst ea_
                      subst ec_
                      clear en_
                      have ea_ := Option.some.inj (hx155_2.symm.trans hx158_2)
                      injection ea_ with ea_ en_ ec_
                      subst ea_
                      subst ec_
                      clear en_
                      go_wp2
                      go_meet
                      case rel => exact ⟨_, (true), (by first | rfl | (simp; done) | (simp [*]; done)), H', ⟨by have := HK1.out; first | omega | exact Nat.le_refl _⟩, ⟨by repeat (first | (with_reducible first | exact HB.out | apply below_alloc | apply pw_below_drewN | apply below_drew1) | exact HB.out)⟩⟩
                    · rw [if_neg c9] at H
                      have c9b0 : decide (100 < (((rd_T29 l0 x3_1).f0).size : Int)) = false := decide_eq_false c9
                      have c9b1 : decide (100 < ((rd_T29 l0 x3_1).f0).size) = false := decide_eq_false (by omega)
                      clear c9
                      have H' := Aside0.mk H
                      clear H
                      have p155 : 0 ≤ (x3_1 : Int) := of_decide_eq_true (by first | (with_reducible assumption) | assumption)
                      have q155 : x3_1 < (l0.length : Int) := of_decide_eq_true (by first | (with_reducible assumption) | assumption)
                      obtain ⟨ad155, A155_1, c155_1, A155_2, c155_2, e155, hx155_0, hx155_1, hx155_2, hx155_3, hx155_4, hl155_1, hi155_1, hl155_2, hi155_2⟩ := at_T29 HR0.out x3_1 p155 q155
                      cases e155
                      replace hx155_0 := (HB.out.cell (World.block_lt_of_cell? w _ hx155_0)).trans hx155_0
                      replace hx155_1 := (HB.out.cell (World.block_lt_of_cell? w _ hx155_1)).trans hx155_1
                      replace hx155_2 := (HB.out.cell (World.block_lt_of_cell? w _ hx155_2)).trans hx155_2
                      replace hx155_3 := (HB.out.cell (World.block_lt_of_cell? w _ hx155_3)).trans hx155_3
                      replace hx155_4 := (HB.out.cell (World.block_lt_of_cell? w _ hx155_4)).trans hx155_4
                      have HR155_1 := Aside0.mk hi155_1
                      have HC155_1 := Aside0.mk hl155_1
                      clear hi155_1 hl155_1
                      have HR155_2 := Aside0.mk hi155_2
                      have HC155_2 := Aside0.mk hl155_2
                      clear hi155_2 hl155_2
                      replace p155 := eq_true p155
                      replace q155 := eq_true q155
                      have p156 : 0 ≤ (x3_1 : Int) := of_decide_eq_true (by first | (with_reducible assumption) | assumption)
                      have q156 : x3_1 < (l0.length : Int) := of_decide_eq_true (by first | (with_reducible assumption) | assumption)
                      obtain ⟨ad156, A156_1, c156_1, A156_2, c156_2, e156, hx156_0, hx156_1, hx156_2, hx156_3, hx156_4, hl156_1, hi156_1, hl156_2, hi156_2⟩ := at_T29 HR0.out x3_1 p156 q156
                      obtain rfl : ad155 = ad156 := (by injection e156)
                      replace hx156_0 := (HB.out.cell (World.block_lt_of_cell? w _ hx156_0)).trans hx156_0
                      replace hx156_1 := (HB.out.cell (World.block_lt_of_cell? w _ hx156_1)).trans hx156_1
                      replace hx156_2 := (HB.out.cell (World.block_lt_of_cell? w _ hx156_2)).trans hx156_2
                      replace hx156_3 := (HB.out.cell (World.block_lt_of_cell? w _ hx156_3)).trans hx156_3
                      replace hx156_4 := (HB.out.cell (World.block_lt_of_cell? w _ hx156_4)).trans hx156_4
                      have HR156_1 := Aside0.mk hi156_1
                      have HC156_1 := Aside0.mk hl156_1
                      clear hi156_1 hl156_1
                      have HR156_2 := Aside0.mk hi156_2
                      have HC156_2 := Aside0.mk hl156_2
                      clear hi156_2 hl156_2
                      replace p156 := eq_true p156
                      replace q156 := eq_true q156
                      have ea_ := Option.some.inj (hx155_1.symm.trans hx156_1)
                      injection ea_ with ea_ en_ ec_
                      subst ea_
                      subst ec_
                      clear en_
                      have ea_ := Option.some.inj (hx155_2.symm.trans hx156_2)
                      injection ea_ with ea_ en_ ec_
                      subst ea_
                      subst ec_
                      clear en_
                      have p157 : 0 ≤ (x3_1 : Int) := of_decide_eq_true (by first | (with_reducible assumption) | assumption)
                      have q157 : x3_1 < (l0.length : Int) := of_decide_eq_true (by first | (with_reducible assumption) | assumption)
                      obtain ⟨ad157, A157_1, c157_1, A157_2, c157_2, e157, hx157_0, hx157_1, hx157_2, hx157_3, hx157_4, hl157_1, hi157_1, hl157_2, hi157_2⟩ := at_T29 HR0.out x3_1 p157 q157
                      obtain rfl : ad155 = ad157 := (by injection e157)
                      replace hx157_0 := (HB.out.cell (World.block_lt_of_cell? w _ hx157_0)).trans hx157_0
                      replace hx157_1 := (HB.out.cell (World.block_lt_of_cell? w _ hx157_1)).trans hx157_1
                      replace hx157_2 := (HB.out.cell (World.block_lt_of_cell? w _ hx157_2)).trans hx157_2
                      replace hx157_3 := (HB.out.cell (World.block_lt_of_cell? w _ hx157_3)).trans hx157_3
                      replace hx157_4 := (HB.out.cell (World.block_lt_of_cell? w _ hx157_4)).trans hx157_4
                      have HR157_1 := Aside0.mk hi157_1
                      have HC157_1 := Aside0.mk hl157_1
                      clear hi157_1 hl157_1
                      have HR157_2 := Aside0.mk hi157_2
                      have HC157_2 := Aside0.mk hl157_2
                      clear hi157_2 hl157_2
                      replace p157 := eq_true p157
                      replace q157 := eq_true q157
                      have ea_ := Option.some.inj (hx155_1.symm.trans hx157_1)
                      injection ea_ with ea_ en_ ec_
                      subst ea_
                      subst ec_
                      clear en_
                      have ea_ := Option.some.inj (hx155_2.symm.trans hx157_2)
                      injection ea_ with ea_ en_ ec_
                      subst ea_
                      subst ec_
                      clear en_
                      have p158 : 0 ≤ (x3_1 : Int) := of_decide_eq_true (by first | (with_reducible assumption) | assumption)
                      have q158 : x3_1 < (l0.length : Int) := of_decide_eq_true (by first | (with_reducible assumption) | assumption)
                      obtain ⟨ad158, A158_1, c158_1, A158_2, c158_2, e158, hx158_0, hx158_1, hx158_2, hx158_3, hx158_4, hl158_1, hi158_1, hl158_2, hi158_2⟩ := at_T29 HR0.out x3_1 p158 q158
                      obtain rfl : ad155 = ad158 := (by injection e158)
                      replace hx158_0 := (HB.out.cell (World.block_lt_of_cell? w _ hx158_0)).trans hx158_0
                      replace hx158_1 := (HB.out.cell (World.block_lt_of_cell? w _ hx158_1)).trans hx158_1
                      replace hx158_2 := (HB.out.cell (World.block_lt_of_cell? w _ hx158_2)).trans hx158_2
                      replace hx158_3 := (HB.out.cell (World.block_lt_of_cell? w _ hx158_3)).trans hx158_3
                      replace hx158_4 := (HB.out.cell (World.block_lt_of_cell? w _ hx158_4)).trans hx158_4
                      have HR158_1 := Aside0.mk hi158_1
                      have HC158_1 := Aside0.mk hl158_1
                      clear hi158_1 hl158_1
                      have HR158_2 := Aside0.mk hi158_2
                      have HC158_2 := Aside0.mk hl158_2
                      clear hi158_2 hl158_2
                      replace p158 := eq_true p158
                      replace q158 := eq_true q158
                      have ea_ := Option.some.inj (hx155_1.symm.trans hx158_1)
                      injection ea_ with ea_ en_ ec_
                      subst ea_
                      subst ec_
                      clear en_
                      have ea_ := Option.some.inj (hx155_2.symm.trans hx158_2)
                      injection ea_ with ea_ en_ ec_
                      subst ea_
                      subst ec_
                      clear en_
                      have p159 : 0 ≤ (x3_1 : Int) := of_decide_eq_true (by first | (with_reducible assumption) | assumption)
                      have q159 : x3_1 < (l0.length : Int) := of_decide_eq_true (by first | (with_reducible assumption) | assumption)
                      obtain ⟨ad159, A159_1, c159_1, A159_2, c159_2, e159, hx159_0, hx159_1, hx159_2, hx159_3, hx159_4, hl159_1, hi159_1, hl159_2, hi159_2⟩ := at_T29 HR0.out x3_1 p159 q159
                      obtain rfl : ad155 = ad159 := (by injection e159)
                      replace hx159_0 := (HB.out.cell (World.block_lt_of_cell? w _ hx159_0)).trans hx159_0
                      replace hx159_1 := (HB.out.cell (World.block_lt_of_cell? w _ hx159_1)).trans hx159_1
                      replace hx159_2 := (HB.out.cell (World.block_lt_of_cell? w _ hx159_2)).trans hx159_2
                      replace hx159_3 := (HB.out.cell (World.block_lt_of_cell? w _ hx159_3)).trans hx159_3
                      replace hx159_4 := (HB.out.cell (World.block_lt_of_cell? w _ hx159_4)).trans hx159_4
                      have HR159_1 := Aside0.mk hi159_1
                      have HC159_1 := Aside0.mk hl159_1
                      clear hi159_1 hl159_1
                      have HR159_2 := Aside0.mk hi159_2
                      have HC159_2 := Aside0.mk hl159_2
                      clear hi159_2 hl159_2
                      replace p159 := eq_true p159
                      replace q159 := eq_true q159
                      have ea_ := Option.some.inj (hx155_1.symm.trans hx159_1)
                      injection ea_ with ea_ en_ ec_
                      subst ea_
                      subst ec_
                      clear en_
                      have ea_ := Option.some.inj (hx155_2.symm.trans hx159_2)
                      injection ea_ with ea_ en_ ec_
                      subst ea_
                      subst ec_
                      clear en_
                      go_wp2
                      go_meet
                      case rel => exact ⟨_, (decide ((((rd_T29 l0 x3_1).f3).size : Int) > 100)), (by first | rfl | (simp; done) | (simp [*]; done)), H', ⟨by have := HK1.out; first | omega | exact Nat.le_refl _⟩, ⟨by repeat (first | (with_reducible first | exact HB.out | apply below_alloc | apply pw_below_drewN | apply below_drew1) | exact HB.out)⟩⟩
            · rw [if_neg c5] at H
              exact absurd H (by simp)
          case rest =>
            clear HC4
            try clear c1
            try clear p1
            try clear q1
            try clear hx1
            try clear c2
            try clear c2b0
            try clear c2b1
            try clear p2
            try clear c3
            try clear c3b0
            try clear c5
            try clear c5b0
            try clear c6
            try clear c6b0
            try clear c6b1
            try clear c7
            try clear c7b0
            try clear c7b1
            try clear c8
            try clear c8b0
            try clear c8b1
            try clear c9
            try clear c9b0
            try clear c9b1
            try clear hx155_0
            try clear hx155_1
            try clear hx155_2
            try clear hx155_3
            try clear hx155_4
            try clear hx156_0
            try clear hx156_1
            try clear hx156_2
            try clear hx156_3
            try clear hx156_4
            try clear hx157_0
            try clear hx157_1
            try clear hx157_2
            try clear hx157_3
            try clear hx157_4
            try clear hx158_0
            try clear hx158_1
            try clear hx158_2
            try clear hx158_3
            try clear hx158_4
            try clear hx159_0
            try clear hx159_1
            try clear hx159_2
            try clear hx159_3
            try clear hx159_4
            try clear p155
            try clear p156
            try clear p157
            try clear p158
            try clear p159
            try clear p2
            try clear q155
            try clear q156
            try clear q157
            try clear q158
            try clear q159
            obtain ⟨kq, x58_3, rfl, HA, HJ3, HB⟩ := hcut
            cases kq with
            | zero => exact absurd HA.out (by simp [lunetteref20_Few.j1])
            | succ kj3 =>
              have H := HA.out
              clear HA
              simp only [lunetteref20_Few.j1] at H
              by_cases c10 : x58_3 = true
              · subst c10
                have H1 : (some false) = some r := by rw [if_pos rfl] at H; exact H
                clear H
                have H := H1
                clear H1
                obtain rfl := Option.some.inj H
                go_wp2
                go_ret
                exact ⟨by first | rfl | (simp [errW_none, errW_some] <;> rfl) | (simp [*, errW_none, errW_some] <;> rfl), by repeat (first | (with_reducible first | exact HB.out | apply below_alloc | apply pw_below_drewN | apply below_drew1) | exact HB.out)⟩
              · replace c10 := Bool.eq_false_iff.mpr c10
                subst c10
                have H1 : (lunetteref20_Few.l1 kj3 l0 x3_1 0) = some r := by rw [if_neg (show ¬ (false = true) by decide)] at H; exact H
                clear H
                have H := H1
                clear H1
                have H' := Aside0.mk H
                clear H
                go_wp2
                go_loopg [4] kj3 (fun kq v4 w' => ∃ (x4_3 : Int), v4 = .int .i64 x4_3 ∧ Aside0 (lunetteref20_Few.l1 kq l0 x3_1 x4_3 = some r) ∧ Aside0 (kq ≤ kj3) ∧ Aside0 (Below w.heap.size w w'))
                case atStart => exact ⟨(0), (by first | rfl | (simp; done) | (simp [*]; done)), H', ⟨Nat.le_refl _⟩, ⟨by repeat (first | (with_reducible first | exact HB.out | apply below_alloc | apply pw_below_drewN | apply below_drew1) | exact HB.out)⟩⟩
                case round =>
                  clear H'
                  try clear c1
                  try clear p1
                  try clear q1
                  try clear hx1
                  try clear c2
                  try clear c2b0
                  try clear c2b1
                  try clear p2
                  try clear c3
                  try clear c3b0
                  try clear c5
                  try clear c5b0
                  try clear c6
                  try clear c6b0
                  try clear c6b1
                  try clear c7
                  try clear c7b0
                  try clear c7b1
                  try clear c8
                  try clear c8b0
                  try clear c8b1
                  try clear c9
                  try clear c9b0
                  try clear c9b1
                  try clear c10
                  try clear hx155_0
                  try clear hx155_1
                  try clear hx155_2
                  try clear hx155_3
                  try clear hx155_4
                  try clear hx156_0
                  try clear hx156_1
                  try clear hx156_2
                  try clear hx156_3
                  try clear hx156_4
                  try clear hx157_0
                  try clear hx157_1
                  try clear hx157_2
                  try clear hx157_3
                  try clear hx157_4
                  try clear hx158_0
                  try clear hx158_1
                  try clear hx158_2
                  try clear hx158_3
                  try clear hx158_4
                  try clear hx159_0
                  try clear hx159_1
                  try clear hx159_2
                  try clear hx159_3
                  try clear hx159_4
                  try clear p1
                  try clear p155
                  try clear p156
                  try clear p157
                  try clear p158
                  try clear p159
                  try clear p2
                  try clear q1
                  try clear q155
                  try clear q156
                  try clear q157
                  try clear q158
                  try clear q159
                  obtain ⟨x4_3, rfl, HA, HK3, HB⟩ := hrel
                  cases gk with
                  | zero => exact absurd HA.out (by simp [lunetteref20_Few.l1])
                  | succ k3 =>
                    have H := HA.out
                    clear HA
                    simp only [lunetteref20_Few.l1] at H
                    by_cases c11 : 0 ≤ x3_1
                    · rw [if_pos c11] at H
                      have c11b0 : decide (0 ≤ x3_1) = true := decide_eq_true c11
                      clear c11
                      by_cases c12 : x3_1 < (l0.length : Int)
                      · rw [if_pos c12] at H
                        have c12b0 : decide (x3_1 < (l0.length : Int)) = true := decide_eq_true c12
                        clear c12
                        by_cases c13 : x4_3 < (((rd_T29 l0 x3_1).f2).length : Int)
                        · rw [if_pos c13] at H
                          have c13b0 : decide (x4_3 < (((rd_T29 l0 x3_1).f2).length : Int)) = true := decide_eq_true c13
                          clear c13
                          by_cases c14 : 0 ≤ x4_3
                          · rw [if_pos c14] at H
                            have c14b0 : decide (0 ≤ x4_3) = true := decide_eq_true c14
                            clear c14
                            replace H := Option.bind_eq_some_iff.mp H
                            obtain ⟨t163, A150, H⟩ := H
                            replace H : (lunetteref20_Few.l2 k3 l0 x3_1 x4_3 t163 0) = some r := H
                            have A15 := Aside0.mk A150
                            clear A150
                            have H' := Aside0.mk H
                            clear H
                            have p160 : 0 ≤ (x3_1 : Int) := of_decide_eq_true (by first | (with_reducible assumption) | assumption)
                            have q160 : x3_1 < (l0.length : Int) := of_decide_eq_true (by first | (with_reducible assumption) | assumption)
                            obtain ⟨ad160, A160_1, c160_1, A160_2, c160_2, e160, hx160_0, hx160_1, hx160_2, hx160_3, hx160_4, hl160_1, hi160_1, hl160_2, hi160_2⟩ := at_T29 HR0.out x3_1 p160 q160
                            cases e160
                            replace hx160_0 := (HB.out.cell (World.block_lt_of_cell? w _ hx160_0)).trans hx160_0
                            replace hx160_1 := (HB.out.cell (World.block_lt_of_cell? w _ hx160_1)).trans hx160_1
                            replace hx160_2 := (HB.out.cell (World.block_lt_of_cell? w _ hx160_2)).trans hx160_2
                            replace hx160_3 := (HB.out.cell (World.block_lt_of_cell? w _ hx160_3)).trans hx160_3
                            replace hx160_4 := (HB.out.cell (World.block_lt_of_cell? w _ hx160_4)).trans hx160_4
                            have HR160_1 := Aside0.mk hi160_1
                            have HC160_1 := Aside0.mk hl160_1
                            clear hi160_1 hl160_1
                            have HR160_2 := Aside0.mk hi160_2
                            have HC160_2 := Aside0.mk hl160_2
                            clear hi160_2 hl160_2
                            replace p160 := eq_true p160
                            replace q160 := eq_true q160
                            have p161 : 0 ≤ (x3_1 : Int) := of_decide_eq_true (by first | (with_reducible assumption) | assumption)
                            have q161 : x3_1 < (l0.length : Int) := of_decide_eq_true (by first | (with_reducible assumption) | assumption)
                            obtain ⟨ad161, A161_1, c161_1, A161_2, c161_2, e161, hx161_0, hx161_1, hx161_2, hx161_3, hx161_4, hl161_1, hi161_1, hl161_2, hi161_2⟩ := at_T29 HR0.out x3_1 p161 q161
                            obtain rfl : ad160 = ad161 := (by injection e161)
                            replace hx161_0 := (HB.out.cell (World.block_lt_of_cell? w _ hx161_0)).trans hx161_0
                            replace hx161_1 := (HB.out.cell (World.block_lt_of_cell? w _ hx161_1)).trans hx161_1
                            replace hx161_2 := (HB.out.cell (World.block_lt_of_cell? w _ hx161_2)).trans hx161_2
                            replace hx161_3 := (HB.out.cell (World.block_lt_of_cell? w _ hx161_3)).trans hx161_3
                            replace hx161_4 := (HB.out.cell (World.block_lt_of_cell? w _ hx161_4)).trans hx161_4
                            have HR161_1 := Aside0.mk hi161_1
                            have HC161_1 := Aside0.mk hl161_1
                            clear hi161_1 hl161_1
                            have HR161_2 := Aside0.mk hi161_2
                            have HC161_2 := Aside0.mk hl161_2
                            clear hi161_2 hl161_2
                            replace p161 := eq_true p161
                            replace q161 := eq_true q161
                            have ea_ := Option.some.inj (hx160_1.symm.trans hx161_1)
                            injection ea_ with ea_ en_ ec_
                            subst ea_
                            subst ec_
                            clear en_
                            have ea_ := Option.some.inj (hx160_2.symm.trans hx161_2)
                            injection ea_ with ea_ en_ ec_
                            subst ea_
                            subst ec_
                            clear en_
                            have p162 : 0 ≤ (x4_3 : Int) := of_decide_eq_true (by first | (with_reducible assumption) | assumption)
                            have q162 : x4_3 < (((rd_T29 l0 x3_1).f2).length : Int) := of_decide_eq_true (by first | (with_reducible assumption) | assumption)
                            obtain ⟨ad162, e162, hx162_0, hx162_1, hx162_2, hx162_3, hx162_4, hx162_5⟩ := at_T51 HR161_2.out x4_3 p162 q162
                            cases e162
                            replace hx162_0 := (HB.out.cell (World.block_lt_of_cell? w _ hx162_0)).trans hx162_0
                            replace hx162_1 := (HB.out.cell (World.block_lt_of_cell? w _ hx162_1)).trans hx162_1
                            replace hx162_2 := (HB.out.cell (World.block_lt_of_cell? w _ hx162_2)).trans hx162_2
                            replace hx162_3 := (HB.out.cell (World.block_lt_of_cell? w _ hx162_3)).trans hx162_3
                            replace hx162_4 := (HB.out.cell (World.block_lt_of_cell? w _ hx162_4)).trans hx162_4
                            replace hx162_5 := (HB.out.cell (World.block_lt_of_cell? w _ hx162_5)).trans hx162_5
                            replace p162 := eq_true p162
                            replace q162 := eq_true q162
                            go_wp2_with (first | ((with_reducible refine gate_callee (f := 21) rfl ?_); refine goesL_ (some 77) rfl rfl Tryz.func21 (by kernel_rfl) rfl #[.agg #[.string ((rd_T51 ((rd_T29 l0 x3_1).f2) x4_3).f0), .string ((rd_T51 ((rd_T29 l0 x3_1).f2) x4_3).f1), .string ((rd_T51 ((rd_T29 l0 x3_1).f2) x4_3).f2), .string ((rd_T51 ((rd_T29 l0 x3_1).f2) x4_3).f3.f0), .string ((rd_T51 ((rd_T29 l0 x3_1).f2) x4_3).f3.f1), .string ((rd_T51 ((rd_T29 l0 x3_1).f2) x4_3).f3.f2)]] rfl (by (try simp only [List.map_toArray, List.map_cons, List.map_nil]); first | done | rfl | (simp only [List.length_drop, List.length_take]; rfl)) ?_; (with_reducible refine (lunetteref11_Parts.calls ((rd_T51 ((rd_T29 l0 x3_1).f2) x4_3).f0) ((rd_T51 ((rd_T29 l0 x3_1).f2) x4_3).f1) ((rd_T51 ((rd_T29 l0 x3_1).f2) x4_3).f2) ((rd_T51 ((rd_T29 l0 x3_1).f2) x4_3).f3.f0) ((rd_T51 ((rd_T29 l0 x3_1).f2) x4_3).f3.f1) ((rd_T51 ((rd_T29 l0 x3_1).f2) x4_3).f3.f2) t163 _ A15.out).mono ?_); rintro e w16 ⟨v164, rfl, ho0, hb⟩; refine ⟨_, rfl, ?_⟩; have n0_ := Aside0.mk (Kd.R_lower ho0 (below_size (by repeat (first | (with_reducible first | exact HB.out | apply below_alloc | apply pw_below_drewN | apply below_drew1) | exact HB.out)))); have n1_ := Aside0.mk (below_step (by repeat (first | (with_reducible first | exact HB.out | apply below_alloc | apply pw_below_drewN | apply below_drew1) | exact HB.out)) hb); clear HB; have HO165 := n0_; have HB := n1_; clear n0_ n1_; (try clear hb); (try clear hb2); (try clear hk); (try clear hi); (try clear ho0)))
                            go_loopg [6] k3 (fun kq v6 w' => ∃ (x6_4 : Int), v6 = .int .i64 x6_4 ∧ Aside0 (lunetteref20_Few.l2 kq l0 x3_1 x4_3 t163 x6_4 = some r) ∧ Aside0 (kq ≤ k3) ∧ Aside0 (Kd.R Kd.string 9 w' w.heap.size (fun _ => True) v164 t163) ∧ Aside0 (Below w.heap.size w w'))
                            case atStart => exact ⟨(0), (by first | rfl | (simp; done) | (simp [*]; done)), H', ⟨Nat.le_refl _⟩, ⟨by (with_reducible repeat (first | apply Kd.R_alloc | apply Kd.R_drewN | apply Kd.R_drew)); exact HO165.out⟩, ⟨by repeat (first | (with_reducible first | exact HB.out | apply below_alloc | apply pw_below_drewN | apply below_drew1) | exact HB.out)⟩⟩
                            case round =>
                              clear H'
                              try clear c1
                              try clear p1
                              try clear q1
                              try clear hx1
                              try clear c2
                              try clear c2b0
                              try clear c2b1
                              try clear p2
                              try clear c3
                              try clear c3b0
                              try clear c5
                              try clear c5b0
                              try clear c6
                              try clear c6b0
                              try clear c6b1
                              try clear c7
                              try clear c7b0
                              try clear c7b1
                              try clear c8
                              try clear c8b0
                              try clear c8b1
                              try clear c9
                              try clear c9b0
                              try clear c9b1
                              try clear c10
                              try clear c11
                              try clear c11b0
                              try clear c12
                              try clear c12b0
                              try clear c13
                              try clear c13b0
                              try clear c14
                              try clear c14b0
                              try clear c15
                              try clear p15
                              try clear q15
                              try clear hx15
                              try clear c16
                              try clear p16
                              try clear q16
                              try clear hx16
                              try clear hx155_0
                              try clear hx155_1
                              try clear hx155_2
                              try clear hx155_3
                              try clear hx155_4
                              try clear hx156_0
                              try clear hx156_1
                              try clear hx156_2
                              try clear hx156_3
                              try clear hx156_4
                              try clear hx157_0
                              try clear hx157_1
                              try clear hx157_2
                              try clear hx157_3
                              try clear hx157_4
                              try clear hx158_0
                              try clear hx158_1
                              try clear hx158_2
                              try clear hx158_3
                              try clear hx158_4
                              try clear hx159_0
                              try clear hx159_1
                              try clear hx159_2
                              try clear hx159_3
                              try clear hx159_4
                              try clear hx160_0
                              try clear hx160_1
                              try clear hx160_2
                              try clear hx160_3
                              try clear hx160_4
                              try clear hx161_0
                              try clear hx161_1
                              try clear hx161_2
                              try clear hx161_3
                              try clear hx161_4
                              try clear hx162_0
                              try clear hx162_1
                              try clear hx162_2
                              try clear hx162_3
                              try clear hx162_4
                              try clear hx162_5
                              try clear p1
                              try clear p155
                              try clear p156
                              try clear p157
                              try clear p158
                              try clear p159
                              try clear p160
                              try clear p161
                              try clear p162
                              try clear p2
                              try clear q1
                              try clear q155
                              try clear q156
                              try clear q157
                              try clear q158
                              try clear q159
                              try clear q160
                              try clear q161
                              try clear q162
                              obtain ⟨x6_4, rfl, HA, HK4, HO_5, HB⟩ := hrel
                              cases gk with
                              | zero => exact absurd HA.out (by simp [lunetteref20_Few.l2])
                              | succ k4 =>
                                have H := HA.out
                                clear HA
                                simp only [lunetteref20_Few.l2] at H
                                by_cases c17 : x6_4 < (t163.length : Int)
                                · rw [if_pos c17] at H
                                  have c17b0 : decide (x6_4 < (t163.length : Int)) = true := decide_eq_true c17
                                  clear c17
                                  by_cases c18 : 0 ≤ x6_4
                                  · rw [if_pos c18] at H
                                    have c18b0 : decide (0 ≤ x6_4) = true := decide_eq_true c18
                                    clear c18
                                    by_cases c19 : ((rdOf ByteArray.empty t163 x6_4).size : Int) > 100
                                    · rw [if_pos c19] at H
                                      have c19b0 : decide (100 < ((rdOf ByteArray.empty t163 x6_4).size : Int)) = true := decide_eq_true c19
                                      have c19b1 : decide (100 < (rdOf ByteArray.empty t163 x6_4).size) = true := decide_eq_true (by omega)
                                      clear c19
                                      obtain rfl := Option.some.inj H
                                      obtain ⟨Ao20, co20, eo20⟩ := Kd.R_slice HO_5.out
                                      subst eo20
                                      have p166 : 0 ≤ (x6_4 : Int) := of_decide_eq_true (by first | (with_reducible assumption) | assumption)
                                      have q166 : x6_4 < (t163.length : Int) := of_decide_eq_true (by first | (with_reducible assumption) | assumption)
                                      obtain ⟨ad166, e166, hx166_0⟩ := Kd.at_string (Kd.R_reads' HO_5.out).2.2 x6_4 p166 q166
                                      cases e166
                                      replace p166 := eq_true p166
                                      replace q166 := eq_true q166
                                      go_wp2
                                      go_ret
                                      exact ⟨by first | rfl | (simp [errW_none, errW_some] <;> rfl) | (simp [*, errW_none, errW_some] <;> rfl), by repeat (first | (with_reducible first | exact HB.out | apply below_alloc | apply pw_below_drewN | apply below_drew1) | exact HB.out)⟩
                                    · rw [if_neg c19] at H
                                      have c19b0 : decide (100 < ((rdOf ByteArray.empty t163 x6_4).size : Int)) = false := decide_eq_false c19
                                      have c19b1 : decide (100 < (rdOf ByteArray.empty t163 x6_4).size) = false := decide_eq_false (by omega)
                                      clear c19
                                      have H' := Aside0.mk H
                                      clear H
                                      obtain ⟨Ao21, co21, eo21⟩ := Kd.R_slice HO_5.out
                                      subst eo21
                                      have p166 : 0 ≤ (x6_4 : Int) := of_decide_eq_true (by first | (with_reducible assumption) | assumption)
                                      have q166 : x6_4 < (t163.length : Int) := of_decide_eq_true (by first | (with_reducible assumption) | assumption)
                                      obtain ⟨ad166, e166, hx166_0⟩ := Kd.at_string (Kd.R_reads' HO_5.out).2.2 x6_4 p166 q166
                                      cases e166
                                      replace p166 := eq_true p166
                                      replace q166 := eq_true q166
                                      go_wp2
                                      go_roundg k4
                                      case measure => have := HK1.out; have := HJ3.out; have := HK3.out; have := HK4.out; omega
                                      case rel => exact ⟨(wrap64 (x6_4 + 1)), (by first | rfl | (simp; done) | (simp [*]; done)), H', ⟨by have := HK1.out; have := HJ3.out; have := HK3.out; have := HK4.out; omega⟩, ⟨by (with_reducible repeat (first | apply Kd.R_alloc | apply Kd.R_drewN | apply Kd.R_drew)); exact HO_5.out⟩, ⟨by repeat (first | (with_reducible first | exact HB.out | apply below_alloc | apply pw_below_drewN | apply below_drew1) | exact HB.out)⟩⟩
                                  · rw [if_neg c18] at H
                                    exact absurd H (by simp)
                                · rw [if_neg c17] at H
                                  have c17b0 : decide (x6_4 < (t163.length : Int)) = false := decide_eq_false c17
                                  clear c17
                                  have H' := Aside0.mk H
                                  clear H
                                  obtain ⟨Ao22, co22, eo22⟩ := Kd.R_slice HO_5.out
                                  subst eo22
                                  go_wp2
                                  go_roundg k4
                                  case measure => have := HK1.out; have := HJ3.out; have := HK3.out; have := HK4.out; omega
                                  case rel => exact ⟨(wrap64 (x4_3 + 1)), (by first | rfl | (simp; done) | (simp [*]; done)), H', ⟨by have := HK1.out; have := HJ3.out; have := HK3.out; have := HK4.out; omega⟩, ⟨by repeat (first | (with_reducible first | exact HB.out | apply below_alloc | apply pw_below_drewN | apply below_drew1) | exact HB.out)⟩⟩
                          · rw [if_neg c14] at H
                            exact absurd H (by simp)
                        · rw [if_neg c13] at H
                          have c13b0 : decide (x4_3 < (((rd_T29 l0 x3_1).f2).length : Int)) = false := decide_eq_false c13
                          clear c13
                          have H' := Aside0.mk H
                          clear H
                          have p160 : 0 ≤ (x3_1 : Int) := of_decide_eq_true (by first | (with_reducible assumption) | assumption)
                          have q160 : x3_1 < (l0.length : Int) := of_decide_eq_true (by first | (with_reducible assumption) | assumption)
                          obtain ⟨ad160, A160_1, c160_1, A160_2, c160_2, e160, hx160_0, hx160_1, hx160_2, hx160_3, hx160_4, hl160_1, hi160_1, hl160_2, hi160_2⟩ := at_T29 HR0.out x3_1 p160 q160
                          cases e160
                          replace hx160_0 := (HB.out.cell (World.block_lt_of_cell? w _ hx160_0)).trans hx160_0
                          replace hx160_1 := (HB.out.cell (World.block_lt_of_cell? w _ hx160_1)).trans hx160_1
                          replace hx160_2 := (HB.out.cell (World.block_lt_of_cell? w _ hx160_2)).trans hx160_2
                          replace hx160_3 := (HB.out.cell (World.block_lt_of_cell? w _ hx160_3)).trans hx160_3
                          replace hx160_4 := (HB.out.cell (World.block_lt_of_cell? w _ hx160_4)).trans hx160_4
                          have HR160_1 := Aside0.mk hi160_1
                          have HC160_1 := Aside0.mk hl160_1
                          clear hi160_1 hl160_1
                          have HR160_2 := Aside0.mk hi160_2
                          have HC160_2 := Aside0.mk hl160_2
                          clear hi160_2 hl160_2
                          replace p160 := eq_true p160
                          replace q160 := eq_true q160
                          go_wp2
                          go_roundg k3
                          case measure => have := HK1.out; have := HJ3.out; have := HK3.out; omega
                          case rel => exact ⟨(wrap64 (x3_1 + 1)), (by first | rfl | (simp; done) | (simp [*]; done)), H', ⟨by have := HK1.out; have := HJ3.out; have := HK3.out; omega⟩, ⟨by repeat (first | (with_reducible first | exact HB.out | apply below_alloc | apply pw_below_drewN | apply below_drew1) | exact HB.out)⟩⟩
                      · rw [if_neg c12] at H
                        exact absurd H (by simp)
                    · rw [if_neg c11] at H
                      exact absurd H (by simp)
        · rw [if_neg c3] at H
          have c3b0 : decide (x3_1 < (l0.length : Int)) = false := decide_eq_false c3
          clear c3
          obtain rfl := Option.some.inj H
          go_wp2
          go_ret
          exact ⟨by first | rfl | (simp [errW_none, errW_some] <;> rfl) | (simp [*, errW_none, errW_some] <;> rfl), by repeat (first | (with_reducible first | exact HB.out | apply below_alloc | apply pw_below_drewN | apply below_drew1) | exact HB.out)⟩

end Go.Proofs.YtbdoafigggcdpaaGreatDoor.PScr
