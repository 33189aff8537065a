/- The walk of token.Mark: what it returns, and that nothing that was there has turned. No condition of ours. -/
import Derived.Test.YtkkfoolflnpegaaDoorRows
import Derived.WalkKit
import Derived.Deep.LoopGhost
import Derived.WalkSpells
import Derived.OpenShut
import Derived.Test.YtkkfoolflnpegaaDoorBase
namespace Go.Proofs.YtkkfoolflnpegaaDoor
set_option linter.unusedVariables false
set_option linter.unusedSimpArgs false
open Go.RowKit

/-- the i-th letter of a mark, as a number -/
def letter (v : Nat) (i : Nat) : Nat := 97 + v / 2 ^ (28 - 4 * i) % 16

theorem letter_eq (v : Nat) (i : Nat) (hv : v < 4294967296) : (97 + bits BinOp.and IntKind.u32 ((v : Int) / 2 ^ (28 - 4 * i)) 15 % 256) % 256 = ((letter v i : Nat) : Int) := by
  have h1 : ((v : Int) / 2 ^ (28 - 4 * i)) = ((v / 2 ^ (28 - 4 * i) : Nat) : Int) := by simp
  have hlt : v / 2 ^ (28 - 4 * i) < 4294967296 := Nat.lt_of_le_of_lt (Nat.div_le_self _ _) hv
  rw [h1, show (15 : Int) = ((15 : Nat) : Int) from rfl, u32_and_nat _ _ hlt (by omega), nat_mask4]
  unfold letter
  omega

theorem letter_any (v : Nat) (i : Nat) (hi : i < 8) (hv : v < 4294967296) (p : Addr) (w : World) (hp : w.cell? p = some (.int .u32 v)) :
    Calls Tryd.prog 17 #[.int .i64 (i : Int), .pointer (some p)] w fun e w' => e = .returned (.int .u8 (letter v i : Nat)) ∧ w = w' := by
  go_enter Tryd.func17, Tryd.ntmps17
  go_wp2
  go_ret
  exact ⟨by simp only [← letter_eq v i hv]; rfl, rfl⟩

/-- the letters told so far, as numbers -/
def markNums (v k : Nat) : List Int := (List.range 8).map fun j => if j < k then ((letter v j : Nat) : Int) else 0
theorem markNums_set (v k : Nat) (hk : k < 8) : (markNums v k).set k ((letter v k : Nat) : Int) = markNums v (k + 1) := by
  apply List.ext_getElem (by simp [markNums])
  intro i h1 h2
  simp only [markNums, List.length_set, List.length_map, List.length_range] at h1
  simp only [markNums, List.getElem_set, List.getElem_map, List.getElem_range]
  split
  · rename_i h; subst h; rw [if_pos (by omega)]
  · by_cases h : i < k
    · rw [if_pos h, if_pos (by omega)]
    · rw [if_neg h, if_neg (by omega)]
/-- the array of a mark's letters -/
def markArr (v k : Nat) : Array Value := ((markNums v k).map fun x => Value.int .u8 x).toArray
theorem markArr_set (v k : Nat) (hk : k < 8) : (markArr v k).setIfInBounds k (.int .u8 ((letter v k : Nat) : Int)) = markArr v (k + 1) := by
  unfold markArr
  rw [List.setIfInBounds_toArray, ← markNums_set v k hk, List.map_set]
/-- the mark of a number -/
def mark (v : Nat) : ByteArray := strOfNums (markNums v 8)

theorem markArr_get (v k i : Nat) (hi : i < 8) : (markArr v k)[i]? = some (.int .u8 ((markNums v k).getD i 0)) := by
  have : i < (markNums v k).length := by simpa [markNums] using hi
  simp [markArr, this]

theorem mark_start (v : Nat) (w : World) : ((w.alloc (.cells #[.int .u32 v] 22)).alloc (.cells #[.int .u8 0, .int .u8 0, .int .u8 0, .int .u8 0, .int .u8 0, .int .u8 0, .int .u8 0, .int .u8 0] 57)).heap[w.heap.size + 1]? = some (.cells (markArr v 0) 57 (0, 0)) := by
  have h := blk_new (w.alloc (.cells #[.int .u32 v] 22)) (.cells #[.int .u8 0, .int .u8 0, .int .u8 0, .int .u8 0, .int .u8 0, .int .u8 0, .int .u8 0, .int .u8 0] 57)
  rw [size_alloc] at h
  rw [h]; rfl
set_option maxRecDepth 100000 in
theorem mark_any (v : Nat) (hv : v < 4294967296) (w : World) :
    Calls Tryd.prog 11 #[.int .u32 v] w fun e w' => e = .returned (.string (mark v)) ∧ Below w.heap.size w w' := by
  have hmf : ∀ (fn : Fn) (first cap : Array Value) (w : World), (Instr.makeFunc fn first cap).run Tryd.prog w = .ok (.func fn first cap) w := fun _ _ _ _ => rfl
  go_enter Tryd.func11, Tryd.ntmps11
  go_wp2
  go_loopw [7] (fun i wr => ∃ k : Nat, k ≤ 8 ∧ i = .int .i64 k ∧ wr.heap[w.heap.size]? = some (.cells #[.int .u32 v] 22 (0,0)) ∧ wr.heap[w.heap.size+1]? = some (.cells (markArr v k) 57 (0,0)) ∧ Below w.heap.size w wr) (fun i _ => 8 - (intOf i).toNat)
  case atStart => exact ⟨0, by omega, rfl, blk_alloc (blk_new _ _) _, mark_start v w, below_new (below_new (Below.refl _ _) _) _⟩
  case round =>
    obtain ⟨k, hk, rfl, h0, h1, hb⟩ := hrel
    by_cases hlt : k < 8
    · have hc0 : wr.cell? ⟨w.heap.size, 0, none⟩ = some (.int .u32 v) := by rw [blk_cell h0]; rfl
      have hc1 : wr.cell? ⟨w.heap.size + 1, k, none⟩ = some (.int .u8 ((markNums v k).getD k 0)) := by rw [blk_cell h1]; exact markArr_get v k k hlt
      have hf1 : wr.frozen? ⟨w.heap.size + 1, k, none⟩ = false := blk_frozen h1 k
      have H0 := Lib.hid h0; clear h0
      have H1 := Lib.hid h1; clear h1
      have HB := Lib.hid hb; clear hb
      go_wp2_with (first | (go_at_call 17; refine (letter_any v k hlt hv _ _ hc0).mono ?_; rintro e w' ⟨rfl, rfl⟩))
      exact ⟨⟨k + 1, by omega, by go_num, blk_far H0.out (by simp) _, by rw [← markArr_set v k hlt]; exact blk_set H1.out _ _, HB.out.setCell (by simp) _⟩, by simp [intOf]; omega⟩
    · obtain rfl : k = 8 := by omega
      have hcv := run_convert_bytes_arg (w := wr) (P := Tryd.prog) 35 5 Tryd.underlying35 Tryd.underlying5 (w.heap.size + 1) 0 8 8 (markNums v 8) (by simp [markNums]) (fun i hi => by rw [Nat.zero_add, blk_cell h1]; exact markArr_get v 8 i hi) 9 Tryd.underlying9
      have H0 := Lib.hid h0; clear h0
      have H1 := Lib.hid h1; clear h1
      have HB := Lib.hid hb; clear hb
      go_wp2
      go_ret
      exact ⟨rfl, HB.out⟩
end Go.Proofs.YtkkfoolflnpegaaDoor
