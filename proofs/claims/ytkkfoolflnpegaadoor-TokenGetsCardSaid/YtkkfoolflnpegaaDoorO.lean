/- The walks of the Once and of the count. No condition of ours. -/
import Derived.Test.YtkkfoolflnpegaaDoorLock
namespace Go.Proofs.YtkkfoolflnpegaaDoor
set_option linter.unusedVariables false
set_option linter.unusedSimpArgs false
open Go Go.RowKit
theorem sumArr_0 (d s : Int) (tab : Nat → Int) (c : Int) : (sumArr d s tab c)[0]? = some (.int .u32 d) := rfl
theorem sumArr_1 (d s : Int) (tab : Nat → Int) (c : Int) : (sumArr d s tab c)[1]? = some (.int .i32 s) := rfl
theorem sumArr_2 (d s : Int) (tab : Nat → Int) (c : Int) : (sumArr d s tab c)[2]? = some (.int .u32 0) := rfl
theorem sumArr_259 (d s : Int) (tab : Nat → Int) (c : Int) : (sumArr d s tab c)[259]? = some (.int .i64 c) := by simp [sumArr]
theorem sumArr_set0 (d s : Int) (tab : Nat → Int) (c x : Int) : (sumArr d s tab c).setIfInBounds 0 (.int .u32 x) = sumArr x s tab c := rfl
theorem sumArr_set1 (d s : Int) (tab : Nat → Int) (c x : Int) : (sumArr d s tab c).setIfInBounds 1 (.int .i32 x) = sumArr d x tab c := rfl
theorem sumArr_set259 (d s : Int) (tab : Nat → Int) (c x : Int) : (sumArr d s tab c).setIfInBounds 259 (.int .i64 x) = sumArr d s tab x := by
  simp [sumArr, List.setIfInBounds_toArray, List.set_append]

set_option maxRecDepth 100000 in
set_option maxHeartbeats 1600000 in
theorem slow_any (b : Nat) (c : Int) (w : World) (hs : w.heap[b]? = some (.cells (sumArr 0 0 (tabTo 0) c) 55 (0, 0))) :
    Calls Tryd.prog 46 #[.pointer (some ⟨b, 0, none⟩), .func (.func 31) #[.pointer (some ⟨b, 0, none⟩)] #[]] w fun e w' => e = .returned (.tuple #[]) ∧
      w'.heap[b]? = some (.cells (sumArr 1 0 (tabTo 256) c) 55 (0, 0)) ∧ Keep b w w' := by
  have h1 : w.cell? ⟨b, 0 + 1, none⟩ = some (.int .i32 0) := by rw [blk_cell hs]; rfl
  have f1 : w.frozen? ⟨b, 0 + 1, none⟩ = false := blk_frozen hs _
  have hs1 : (w.setCell ⟨b, 1, none⟩ (.int .i32 1)).heap[b]? = some (.cells (sumArr 0 1 (tabTo 0) c) 55 (0, 0)) := blk_set hs 1 (.int .i32 1)
  have k1 : Keep b w (w.setCell ⟨b, 1, none⟩ (.int .i32 1)) := (Keep.refl _ _).setCell _ _
  have c1 : (w.setCell ⟨b, 1, none⟩ (.int .i32 1)).cell? ⟨b, 0, none⟩ = some (.int .u32 0) := by rw [blk_cell hs1]; rfl
  have hnot : ∀ (x : Bool) (w : World), (Op.unary .not (.bool x)).run Tryd.prog w = .ok (.bool (!x)) w := fun _ _ => rfl
  have HS := Lib.hid hs; clear hs
  have HS1 := Lib.hid hs1; clear hs1
  have K1 := Lib.hid k1; clear k1
  go_enter_defers Tryd.func46, Tryd.ntmps46
  go_wp2_with (go_at_call 60; refine (lock_free ⟨b, 1, none⟩ _ h1 f1).mono ?_; rintro e w' ⟨rfl, rfl⟩)
  refine (load_any ⟨b, 0, none⟩ 0 _ c1).mono ?_
  rintro e w' ⟨rfl, rfl⟩
  generalize w.setCell ⟨b, 1, none⟩ (.int .i32 1) = w1 at *
  go_wp2_with (go_at_call 31; refine (fill_any b 0 1 c w1 HS1.out).mono ?_; rintro e w2 ⟨rfl, hs2, k2⟩)
  refine leaves_cons (f := 62) (args := #[.pointer (some ⟨b, 0, none⟩), .bool true]) (by simp) (by simp [go_sem]) ?_
  refine (store_deferred ⟨b, 0, none⟩ (.int .u32 0) .returning _ (by rw [blk_cell hs2]; rfl) (blk_frozen hs2 _)).mono ?_
  rintro e u' w3 ⟨rfl, rfl, rfl⟩
  have hs3 : (w2.drew.setCell ⟨b, 0, none⟩ (.int .u32 1)).heap[b]? = some (.cells (sumArr 1 1 (tabTo 256) c) 55 (0, 0)) := blk_set (w := w2.drew) hs2 0 (.int .u32 1)
  refine leaves_cons (f := 61) (args := #[.pointer (some ⟨b, 1, none⟩)]) (by simp [settle]) (by simp [go_sem]) ?_
  refine (unlock_deferred ⟨b, 1, none⟩ _ _ (by rw [blk_cell hs3]; rfl) (blk_frozen hs3 _)).mono ?_
  rintro e u' w4 ⟨rfl, rfl, rfl⟩
  have hs4 := blk_set hs3 1 (.int .i32 0)
  have k4 := ((K1.out.trans k2).drew.setCell 0 (.int .u32 1)).setCell 1 (.int .i32 0)
  exact ⟨_, results_none rfl _ _ _, rfl, hs4, k4⟩

/-- A Summer lies at block b, not begun or begun. -/
def Summ (w : World) (b : Nat) : Prop := ∃ c : Int, w.heap[b]? = some (.cells (sumArr 0 0 (tabTo 0) c) 55 (0, 0)) ∨ w.heap[b]? = some (.cells (sumArr 1 0 (tabTo 256) c) 55 (0, 0))
/-- A Summer lies at block b, its table made. -/
def Ready (w : World) (b : Nat) : Prop := ∃ c : Int, w.heap[b]? = some (.cells (sumArr 1 0 (tabTo 256) c) 55 (0, 0))
theorem Ready.summ {w : World} {b : Nat} (h : Ready w b) : Summ w b := let ⟨c, h⟩ := h; ⟨c, .inr h⟩
theorem Summ.below {w w1 : World} {b : Nat} (h : Summ w b) (hb : Below w.heap.size w w1) : Summ w1 b := let ⟨c, h⟩ := h; ⟨c, h.imp (fun h => blk_below h hb) (fun h => blk_below h hb)⟩
theorem Summ.lt {w : World} {b : Nat} (h : Summ w b) : b < w.heap.size := by obtain ⟨c, h | h⟩ := h <;> exact blk_lt h
theorem Ready.drewN {w : World} {b : Nat} (h : Ready w b) (n : Nat) : Ready (w.drewN n) b := h

set_option maxRecDepth 100000 in
theorem do_any (b : Nat) (w : World) (hs : Summ w b) :
    Calls Tryd.prog 30 #[.pointer (some ⟨b, 0, none⟩), .func (.func 31) #[.pointer (some ⟨b, 0, none⟩)] #[]] w fun e w' => e = .returned (.tuple #[]) ∧ Ready w' b ∧ Keep b w w' := by
  have hnot : ∀ (x : Bool) (w : World), (Op.unary .not (.bool x)).run Tryd.prog w = .ok (.bool (!x)) w := fun _ _ => rfl
  obtain ⟨c, hs | hs⟩ := hs
  · have c1 : w.cell? ⟨b, 0, none⟩ = some (.int .u32 0) := by rw [blk_cell hs]; rfl
    have HS := Lib.hid hs; clear hs
    go_enter Tryd.func30, Tryd.ntmps30
    go_wp2_with (first | (go_at_call 45; refine (load_any ⟨b, 0, none⟩ 0 _ c1).mono ?_; rintro e w' ⟨rfl, rfl⟩) | (go_at_call 46; refine (slow_any b c _ HS.out).mono ?_; rintro e w' ⟨rfl, hs2, k2⟩))
    go_end0
    exact ⟨rfl, ⟨c, hs2⟩, k2⟩
  · have c1 : w.cell? ⟨b, 0, none⟩ = some (.int .u32 1) := by rw [blk_cell hs]; rfl
    have HS := Lib.hid hs; clear hs
    go_enter Tryd.func30, Tryd.ntmps30
    go_wp2_with (first | (go_at_call 45; refine (load_any ⟨b, 0, none⟩ 1 _ c1).mono ?_; rintro e w' ⟨rfl, rfl⟩))
    go_end0
    exact ⟨rfl, ⟨c, HS.out⟩, Keep.refl _ _⟩

set_option maxRecDepth 100000 in
theorem add_any (b : Nat) (n : Int) (w : World) (hs : Ready w b) :
    Calls Tryd.prog 32 #[.pointer (some ⟨b, 259, none⟩), .int .i64 n] w fun e w' => (∃ v, e = .returned v) ∧ Ready w' b ∧ Keep b w w' := by
  obtain ⟨c, hs⟩ := hs
  have hadd := run_call_add (P := Tryd.prog) Tryd.func47 (by kernel_rfl) (by kernel_rfl) (by kernel_rfl) .i64 (by kernel_rfl) (a := ⟨b, 259, none⟩) (x := c) (y := n) (s := wrap64 (c + n)) (w := w) (by rw [blk_cell hs]; exact sumArr_259 _ _ _ _) (blk_frozen hs _) (by simp [go_sem, wrap64, IntKind.wrap_i64])
  have hs2 := blk_set hs 259 (.int .i64 (wrap64 (c + n)))
  rw [sumArr_set259] at hs2
  have HS2 := Lib.hid hs2; clear hs2 hs
  go_enter Tryd.func32, Tryd.ntmps32
  go_wp2
  go_ret
  exact ⟨⟨_, rfl⟩, ⟨_, HS2.out⟩, (Keep.refl _ _).setCell _ _⟩
end Go.Proofs.YtkkfoolflnpegaaDoor
