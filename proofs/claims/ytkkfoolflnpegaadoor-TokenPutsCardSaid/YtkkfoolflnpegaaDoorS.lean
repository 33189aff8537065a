/- The walks of the sum over one piece. No condition of ours. -/
import Derived.Test.YtkkfoolflnpegaaDoorO
namespace Go.Proofs.YtkkfoolflnpegaaDoor
set_option linter.unusedVariables false
set_option linter.unusedSimpArgs false
open Go Go.RowKit

theorem tabTo_256 (x : Nat) (hx : x < 256) : tabTo 256 x = ((tabOf x : Nat) : Int) := by simp [tabTo, hx]
/-- the sum's state behind k of one piece -/
def after1 (k : Nat) (l : List UInt8) : Nat := if k = 0 then 4294967295 else crcRun 4294967295 l
theorem take_snoc' (s : ByteArray) (k : Nat) (h : k < s.size) : s.data.toList.take (k + 1) = s.data.toList.take k ++ [s[k]] := by
  rw [List.take_succ_eq_append_getElem (by simpa using h)]; rfl
theorem low8 (v c : Nat) (hc : c < 256) : bits BinOp.xor IntKind.u8 ((v : Int) % 256) (c : Int) = (((v % 256) ^^^ c : Nat) : Int) := by
  rw [show ((v : Int) % 256) = ((v % 256 : Nat) : Int) by omega, u8_xor_nat _ _ (by omega) hc]
theorem high24 (v x : Nat) (hv : v < 4294967296) (hx : x < 256) : bits BinOp.xor IntKind.u32 ((v : Int) / 256) ((tabOf x : Nat) : Int) = (((v / 256) ^^^ tabOf x : Nat) : Int) := by
  rw [show ((v : Int) / 256) = ((v / 256 : Nat) : Int) by omega, u32_xor_nat _ _ (by omega) (tabOf_lt hx)]

theorem ret_u32 {a b : Int} (h : a = b) : Ending.returned (.int .u32 a) = .returned (.int .u32 b) := by rw [h]
theorem flip32 (v : Nat) (hv : v < 4294967296) : bits BinOp.xor IntKind.u32 IntKind.u32.max (v : Int) = ((4294967295 - v : Nat) : Int) := by
  have e : (IntKind.u32.max : Int) = ((4294967295 : Nat) : Int) := by decide
  rw [e, u32_xor_nat _ _ (by omega) hv]
  have h := congrArg BitVec.toNat (BitVec.allOnes_xor (x := BitVec.ofNat 32 v))
  simp only [BitVec.toNat_xor, BitVec.toNat_not, BitVec.toNat_ofNat, BitVec.toNat_allOnes] at h
  rw [Nat.mod_eq_of_lt hv] at h
  exact congrArg Nat.cast h

set_option maxRecDepth 100000 in
set_option maxHeartbeats 800000 in
theorem parts_any (b g h n cap : Nat) (s : ByteArray) (w : World) (hs : Summ w b) (hn : s.size = n) (hm : n ≤ 1099511627776) (hgb : g ≠ b) (hhb : h ≠ b)
    (hg : w.cell? ⟨g, 0, none⟩ = some (.slice (some ⟨h, 0, none⟩) n cap)) (hc : ∀ i (hi : i < s.size), w.cell? ⟨h, i, none⟩ = some (.int .u8 (s[i].toNat : Nat))) :
    Calls Tryd.prog 24 #[.pointer (some ⟨b, 0, none⟩), .slice (some ⟨g, 0, none⟩) 1 1] w fun e w' => e = .returned (.int .u32 (crc s.data.toList : Nat)) ∧ Ready w' b ∧ Keep b w w' := by
  have hmf : ∀ (fn : Fn) (first cap : Array Value) (w : World), (Instr.makeFunc fn first cap).run Tryd.prog w = .ok (.func fn first cap) w := fun _ _ _ _ => rfl
  have HG := Lib.hid hg; clear hg
  have HC := Lib.hid hc; clear hc
  have HN := Lib.hid hn; clear hn
  go_enter Tryd.func24, Tryd.ntmps24
  go_wp2_with (first | (go_at_call 30; refine (do_any b _ hs).mono ?_; rintro e w1 ⟨rfl, hr1, k1⟩))
  go_loopw [5, 18] (fun v i wr => ∃ k : Nat, k ≤ 1 ∧ i = .int .i64 k ∧ v = .int .u32 (after1 k s.data.toList : Nat) ∧ Ready wr b ∧ Keep b w wr) (fun _ i _ => 1 - (intOf i).toNat)
  case atStart => exact ⟨0, by omega, rfl, rfl, hr1, k1⟩
  case round =>
    clear hr1 k1
    obtain ⟨k, hk, rfl, rfl, hr, hkp⟩ := hrel
    have HR := Lib.hid hr; clear hr
    have HK := Lib.hid hkp; clear hkp
    by_cases hlt : k < 1
    · obtain rfl : k = 0 := by omega
      have hgc : wr.cell? ⟨g, 0, none⟩ = some (.slice (some ⟨h, 0, none⟩) n cap) := (World.cell?_of_block (w := w) (HK.out.block g (World.block_lt_of_cell? w _ HG.out) hgb)).trans HG.out
      go_wp2
      clear hgc
      go_loop [5, 24] (fun v i => ∃ j : Nat, j ≤ n ∧ i = .int .i64 j ∧ v = .int .u32 (crcRun 4294967295 (s.data.toList.take j) : Nat)) (fun _ i => n - (intOf i).toNat)
      case atStart => exact ⟨0, by omega, rfl, rfl⟩
      case round =>
        obtain ⟨j, hj, rfl, rfl⟩ := hrel
        have hl := crcRun_lt (s.data.toList.take j) (v := 4294967295) (by omega)
        obtain ⟨v, hv⟩ : ∃ v, crcRun 4294967295 (s.data.toList.take j) = v := ⟨_, rfl⟩
        rw [hv] at hl ⊢
        have HV := Lib.hid hv; clear hv
        by_cases hlt : j < n
        · obtain ⟨c0, hc0⟩ : ∃ c0, s[j]'(by rw [HN.out]; exact hlt) = c0 := ⟨_, rfl⟩
          have hcell : wr.cell? ⟨h, j, none⟩ = some (.int .u8 (c0.toNat : Nat)) := by
            rw [← hc0]
            exact (World.cell?_of_block (w := w) (HK.out.block h (World.block_lt_of_cell? w _ (HC.out j (by rw [HN.out]; exact hlt))) hhb)).trans (HC.out j (by rw [HN.out]; exact hlt))
          have HC0 := Lib.hid hc0; clear hc0
          have hcl : c0.toNat < 256 := by have := c0.toNat_lt; simpa using this
          obtain ⟨x, hx⟩ : ∃ x, (v % 256) ^^^ c0.toNat = x := ⟨_, rfl⟩
          have hx256 : x < 256 := by rw [← hx]; exact Nat.xor_lt_two_pow (n := 8) (by omega) hcl
          have e1 := low8 v c0.toNat hcl
          rw [hx] at e1
          have HX := Lib.hid hx; clear hx
          obtain ⟨q, hq⟩ := HR.out
          have htab : wr.cell? ⟨b, 3 + x, none⟩ = some (.int .u32 (tabOf x : Nat)) := by rw [blk_cell hq, sumArr_get _ _ _ _ _ hx256, tabTo_256 _ hx256]
          clear hq q
          go_wp2
          exact ⟨⟨j + 1, by omega, by go_num, by rw [take_snoc' s j (by rw [HN.out]; exact hlt), crcRun_snoc, HC0.out, high24 v x hl hx256, ← HX.out, ← HV.out]; rfl⟩, by simp [intOf]; omega⟩
        · obtain rfl : j = n := by omega
          go_wp2_with (first | (go_at_call 32; refine (add_any b _ _ HR.out).mono ?_; rintro e w2 ⟨⟨v2, rfl⟩, hr2, k2⟩))
          exact ⟨⟨1, by omega, by go_num, by rw [← HV.out, List.take_of_length_le (by rw [← HN.out]; simp)]; rfl, hr2, HK.out.trans k2⟩, by simp [intOf]⟩
    · obtain rfl : k = 1 := by omega
      go_wp2
      go_ret
      exact ⟨ret_u32 (flip32 (crcRun 4294967295 s.data.toList) (crcRun_lt _ (by omega))), HR.out, HK.out⟩

set_option maxRecDepth 100000 in
theorem of_any (b h n cap : Nat) (s : ByteArray) (w : World) (hs : Summ w b) (hn : s.size = n) (hm : n ≤ 1099511627776) (hhb : h ≠ b)
    (hc : ∀ i (hi : i < s.size), w.cell? ⟨h, i, none⟩ = some (.int .u8 (s[i].toNat : Nat))) :
    Calls Tryd.prog 16 #[.pointer (some ⟨b, 0, none⟩), .slice (some ⟨h, 0, none⟩) n cap] w fun e w' => e = .returned (.int .u32 (crc s.data.toList : Nat)) ∧ Ready w' b ∧ Keep b w w' := by
  have HC := Lib.hid hc; clear hc
  have HN := Lib.hid hn; clear hn
  have HS := Lib.hid hs; clear hs
  go_enter Tryd.func16, Tryd.ntmps16
  go_wp2_with fail
  refine (parts_any b w.heap.size h n cap s _ (HS.out.below (below_new (Below.refl _ _) _)) HN.out hm (by have := HS.out.lt; omega) hhb (by rw [blk_cell (blk_new _ _)]; rfl) (fun i hi => below_cell (below_new (Below.refl _ _) _) (HC.out i hi))).mono ?_
  rintro e w' ⟨rfl, hr, hk⟩
  have HR := Lib.hid hr; clear hr
  have HK := Lib.hid hk; clear hk
  go_wp2
  go_ret
  exact ⟨rfl, HR.out, ((Keep.refl b w).alloc _).trans HK.out⟩
end Go.Proofs.YtkkfoolflnpegaaDoor
