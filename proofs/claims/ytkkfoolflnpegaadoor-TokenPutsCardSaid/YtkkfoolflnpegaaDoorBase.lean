/- Small words on blocks and worlds that the walks of this claim use; nothing of the program in them. -/
import Derived.WalkKit
import Derived.WalkSpells
import Derived.Lib.Hide
import Derived.Deep.Draws
import Derived.Deep.QuietTactic
import Derived.BigQuiet
namespace Go.Proofs.YtkkfoolflnpegaaDoor
set_option linter.unusedVariables false
set_option linter.unusedSimpArgs false
open Go Go.RowKit

theorem blk_lt {w : World} {g : Nat} {o : Obj} (h : w.heap[g]? = some o) : g < w.heap.size := (Array.getElem?_eq_some_iff.1 h).1
theorem blk_cell {w : World} {g : Nat} {t : TypeId} {cs : Array Value} {r : Nat × Nat} (h : w.heap[g]? = some (.cells cs t r)) (i : Nat) : w.cell? ⟨g, i, none⟩ = cs[i]? := cell_of_row w g i cs t r h
theorem blk_frozen {w : World} {g : Nat} {t : TypeId} {cs : Array Value} (h : w.heap[g]? = some (.cells cs t (0, 0))) (i : Nat) : w.frozen? ⟨g, i, none⟩ = false := by simp [World.frozen?, h]
theorem blk_set {w : World} {g : Nat} {t : TypeId} {cs : Array Value} {r : Nat × Nat} (h : w.heap[g]? = some (.cells cs t r)) (i : Nat) (u : Value) : (w.setCell ⟨g, i, none⟩ u).heap[g]? = some (.cells (cs.setIfInBounds i u) t r) := by
  simp [World.setCell, Array.getElem?_modify, h]
theorem blk_far {w : World} {g : Nat} {o : Obj} (h : w.heap[g]? = some o) {p : Addr} (hp : g ≠ p.block) (u : Value) : (w.setCell p u).heap[g]? = some o := (Below.heap_setCell w p u g hp).trans h
theorem blk_alloc {w : World} {g : Nat} {o : Obj} (h : w.heap[g]? = some o) (o' : Obj) : (w.alloc o').heap[g]? = some o := (Below.heap_alloc w o' g (blk_lt h)).trans h
theorem blk_drew {w : World} {g : Nat} {o : Obj} (h : w.heap[g]? = some o) : w.drew.heap[g]? = some o := h
theorem blk_drewN {w : World} {g : Nat} {o : Obj} (h : w.heap[g]? = some o) (n : Nat) : (w.drewN n).heap[g]? = some o := h
theorem blk_below {w w1 : World} {g : Nat} {o : Obj} (h : w.heap[g]? = some o) (hb : Below w.heap.size w w1) : w1.heap[g]? = some o := (hb.block g (blk_lt h)).trans h
theorem blk_new (w : World) (o : Obj) : (w.alloc o).heap[w.heap.size]? = some o := heap_alloc_new w o
theorem size_alloc (w : World) (o : Obj) : (w.alloc o).heap.size = w.heap.size + 1 := by simp
theorem size_setCell (w : World) (a : Addr) (u : Value) : (w.setCell a u).heap.size = w.heap.size := by simp
theorem below_new {w W : World} (h : Below w.heap.size w W) (o : Obj) : Below w.heap.size w (W.alloc o) := h.alloc h.size o
theorem below_drewN {B : Nat} {w W : World} (h : Below B w W) (n : Nat) : Below B w (W.drewN n) := ⟨h.os, h.tape, h.output, h.size, h.block⟩
theorem below_then {w w1 w2 : World} (h : Below w.heap.size w w1) (k : Below w1.heap.size w1 w2) : Below w.heap.size w w2 := h.trans (k.mono h.size)
theorem below_cell {w w1 : World} (h : Below w.heap.size w w1) {a : Addr} {v : Value} (hc : w.cell? a = some v) : w1.cell? a = some v := (h.cell (World.block_lt_of_cell? w a hc)).trans hc

/-- Of what was there nothing but block b has turned. -/
structure Keep (b : Nat) (w w' : World) : Prop where
  os : w'.os = w.os
  tape : w'.tape = w.tape
  output : w'.output = w.output
  size : w.heap.size ≤ w'.heap.size
  block : ∀ g, g < w.heap.size → g ≠ b → w'.heap[g]? = w.heap[g]?
theorem Keep.refl (b : Nat) (w : World) : Keep b w w := ⟨rfl, rfl, rfl, Nat.le_refl _, fun _ _ _ => rfl⟩
theorem Keep.of_below {b : Nat} {w w' : World} (h : Below w.heap.size w w') : Keep b w w' := ⟨h.os, h.tape, h.output, h.size, fun g hg _ => h.block g hg⟩
theorem Keep.trans {b : Nat} {w w1 w2 : World} (h : Keep b w w1) (k : Keep b w1 w2) : Keep b w w2 :=
  ⟨k.os.trans h.os, k.tape.trans h.tape, k.output.trans h.output, Nat.le_trans h.size k.size, fun g hg hb => (k.block g (Nat.lt_of_lt_of_le hg h.size) hb).trans (h.block g hg hb)⟩
theorem Keep.setCell {b : Nat} {w w1 : World} (h : Keep b w w1) (i : Nat) (u : Value) : Keep b w (w1.setCell ⟨b, i, none⟩ u) :=
  h.trans ⟨rfl, rfl, rfl, by simp, fun g _ hb => Below.heap_setCell _ _ _ _ hb⟩
theorem Keep.alloc {b : Nat} {w w1 : World} (h : Keep b w w1) (o : Obj) : Keep b w (w1.alloc o) := h.trans (Keep.of_below (below_new (Below.refl _ _) o))
theorem Keep.drew {b : Nat} {w w1 : World} (h : Keep b w w1) : Keep b w w1.drew := ⟨h.os, h.tape, h.output, h.size, h.block⟩
theorem Keep.drewN {b : Nat} {w w1 : World} (h : Keep b w w1) (n : Nat) : Keep b w (w1.drewN n) := ⟨h.os, h.tape, h.output, h.size, h.block⟩
theorem Keep.blk {b g : Nat} {w w1 : World} (h : Keep b w w1) {o : Obj} (hg : w.heap[g]? = some o) (hb : g ≠ b) : w1.heap[g]? = some o := (h.block g (blk_lt hg) hb).trans hg
/-- what kept all but a block that is new kept all -/
theorem Keep.below {w w1 w2 : World} {b : Nat} (h : Below w.heap.size w w1) (hb : w.heap.size ≤ b) (k : Keep b w1 w2) : Below w.heap.size w w2 :=
  ⟨k.os.trans h.os, k.tape.trans h.tape, k.output.trans h.output, Nat.le_trans h.size k.size, fun g hg => (k.block g (Nat.lt_of_lt_of_le hg h.size) (by omega)).trans (h.block g hg)⟩
end Go.Proofs.YtkkfoolflnpegaaDoor
