/- The walks of sum.New and of the table-making loop. No condition of ours. -/
import Derived.Test.YtkkfoolflnpegaaDoorRows
import Derived.Test.YtkkfoolflnpegaaDoorBase
import Derived.Test.YtkkfoolflnpegaaDoorCrc
namespace Go.Proofs.YtkkfoolflnpegaaDoor
set_option linter.unusedVariables false
set_option linter.unusedSimpArgs false
open Go Go.RowKit

/-- a Summer's cells -/
def sumArr (d s : Int) (tab : Nat → Int) (c : Int) : Array Value :=
  (Value.int .u32 d :: Value.int .i32 s :: Value.int .u32 0 :: (((List.range 256).map fun i => Value.int .u32 (tab i)) ++ [Value.int .i64 c])).toArray
def tabTo (k : Nat) : Nat → Int := fun j => if j < k then ((tabOf j : Nat) : Int) else 0

theorem zero55 : Tryd.zeroCells55 = sumArr 0 0 (tabTo 0) 0 := by kernel_rfl

theorem sumArr_get (d s : Int) (tab : Nat → Int) (c : Int) (i : Nat) (hi : i < 256) : (sumArr d s tab c)[3 + i]? = some (.int .u32 (tab i)) := by
  simp only [sumArr, List.getElem?_toArray, Nat.add_comm 3 i]
  simp [List.getElem?_append, hi]
theorem sumArr_set (d s : Int) (k : Nat) (c : Int) (hk : k < 256) : (sumArr d s (tabTo k) c).setIfInBounds (3 + k) (.int .u32 (tabOf k : Nat)) = sumArr d s (tabTo (k + 1)) c := by
  simp only [sumArr, List.setIfInBounds_toArray, Nat.add_comm 3 k]
  congr 1
  simp only [List.set_cons_succ, List.cons_append]
  congr 3
  rw [List.set_append_left _ _ (by simpa using hk)]
  congr 1
  apply List.ext_getElem (by simp)
  intro i h1 h2
  simp only [List.length_set, List.length_map, List.length_range] at h1
  simp only [List.getElem_set, List.getElem_map, List.getElem_range, tabTo]
  split
  · rename_i h; subst h; rw [if_pos (by omega)]
  · by_cases h : i < k
    · rw [if_pos h, if_pos (by omega)]
    · rw [if_neg h, if_neg (by omega)]

theorem new_any (w : World) :
    Calls Tryd.prog 8 #[] w fun e w' => e = .returned (.pointer (some ⟨w.heap.size, 0, none⟩)) ∧ w'.heap[w.heap.size]? = some (.cells (sumArr 0 0 (tabTo 0) 0) 55 (0, 0)) ∧ Below w.heap.size w w' := by
  go_enter Tryd.func8, Tryd.ntmps8
  go_wp2
  go_ret
  exact ⟨rfl, by rw [← zero55]; exact blk_new _ _, below_new (Below.refl _ _) _⟩

theorem u32_low (v : Nat) (hv : v < 4294967296) : bits BinOp.and IntKind.u32 (v : Int) 1 = ((v % 2 : Nat) : Int) := by
  rw [show (1 : Int) = ((1 : Nat) : Int) from rfl, u32_and_nat _ _ hv (by omega), nat_mask1]
theorem u32_poly (v : Nat) (hv : v < 4294967296) : bits BinOp.xor IntKind.u32 (v : Int) 3988292384 = ((v ^^^ poly : Nat) : Int) := by
  rw [show (3988292384 : Int) = ((3988292384 : Nat) : Int) from rfl, u32_xor_nat _ _ hv (by omega)]; rfl

set_option maxRecDepth 100000 in
theorem fill_any (b : Nat) (d s c : Int) (w : World) (hs : w.heap[b]? = some (.cells (sumArr d s (tabTo 0) c) 55 (0, 0))) :
    Calls Tryd.prog 31 #[.pointer (some ⟨b, 0, none⟩)] w fun e w' => e = .returned (.tuple #[]) ∧ w'.heap[b]? = some (.cells (sumArr d s (tabTo 256) c) 55 (0, 0)) ∧ Keep b w w' := by
  have HS := Lib.hid hs; clear hs
  go_enter Tryd.func31, Tryd.ntmps31
  go_wp2
  go_loopw [4] (fun i wr => ∃ k : Nat, k ≤ 256 ∧ i = .int .i64 k ∧ wr.heap[b]? = some (.cells (sumArr d s (tabTo k) c) 55 (0,0)) ∧ Keep b w wr) (fun i _ => 256 - (intOf i).toNat)
  case atStart => exact ⟨0, by omega, rfl, HS.out, Keep.refl _ _⟩
  case round =>
    obtain ⟨k, hk, rfl, h1, h2⟩ := hrel
    by_cases hlt : k < 256
    · have hc : wr.cell? ⟨b, 3 + k, none⟩ = some (.int .u32 (tabTo k k)) := by rw [blk_cell h1]; exact sumArr_get _ _ _ _ _ hlt
      have hf : wr.frozen? ⟨b, 3 + k, none⟩ = false := blk_frozen h1 _
      have H1 := Lib.hid h1; clear h1
      have H2 := Lib.hid h2; clear h2
      go_wp2
      go_loop [3, 9] (fun v i => ∃ m : Nat, m ≤ 8 ∧ i = .int .i64 m ∧ v = .int .u32 (steps m k : Nat)) (fun _ i => 8 - (intOf i).toNat)
      case atStart => exact ⟨0, by omega, rfl, rfl⟩
      case round =>
        obtain ⟨m, hm, rfl, rfl⟩ := hrel
        have hl := steps_lt m (v := k) (by omega)
        obtain ⟨v, hv⟩ : ∃ v, steps m k = v := ⟨_, rfl⟩
        rw [hv] at hl ⊢
        have HV := Lib.hid hv; clear hv
        have e1 := u32_low v hl
        have e2 := u32_poly (v / 2) (by omega)
        by_cases hlt : m < 8
        · by_cases ho : v % 2 = 1
          · go_wp2
            exact ⟨⟨m + 1, by omega, by go_num, by rw [← step_odd v ho m k HV.out, ← e2]; go_num⟩, by simp [intOf]; omega⟩
          · go_wp2
            exact ⟨⟨m + 1, by omega, by go_num, by rw [← step_even v ho m k HV.out]; go_num⟩, by simp [intOf]; omega⟩
        · obtain rfl : m = 8 := by omega
          go_wp2
          exact ⟨⟨k + 1, by omega, by go_num, by rw [← sumArr_set d s k c (by omega)]; rw [show tabOf k = v from HV.out]; exact blk_set H1.out _ _, H2.out.setCell _ _⟩, by simp [intOf]; omega⟩
    · obtain rfl : k = 256 := by omega
      have H1 := Lib.hid h1; clear h1
      have H2 := Lib.hid h2; clear h2
      go_wp2
      go_end0
      exact ⟨rfl, H1.out, H2.out⟩
end Go.Proofs.YtkkfoolflnpegaaDoor
