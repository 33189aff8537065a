/- The walk of the law that a token of which one letter is another one is none. No condition of ours. -/
import Derived.Test.YtkkfoolflnpegaaDoorTurn
namespace Go.Proofs.YtkkfoolflnpegaaDoor
set_option linter.unusedVariables false
set_option linter.unusedSimpArgs false
open Go Go.RowKit

/-- the bytes of a token of which one is another one, as numbers -/
def turnedNums (v i b : Nat) : List Int := ((tokL v).map fun c => ((c.toNat : Nat) : Int)).set i (b : Int)
theorem turned_str (v i b : Nat) (hb : b < 256) : (strOfNums (turnedNums v i b)).data.toList = (tokL v).set i (UInt8.ofNat b) := by
  rw [strOfNums_data, turnedNums, List.map_set, List.map_map]
  have e : ((fun n : Int => UInt8.ofNat n.toNat) ∘ fun c : UInt8 => ((c.toNat : Nat) : Int)) = id := by
    funext c; simp
  rw [e]; simp

theorem bytes_size (w : World) (e : TypeId) (s : ByteArray) : s.size ≤ (Lib.bytesCells w e s).size := by
  unfold Lib.bytesCells
  rw [Array.size_append, Array.size_map]
  exact Nat.le_add_right _ _
theorem bytes_frozen (w : World) (e : TypeId) (s : ByteArray) (i : Nat) (hi : i < s.size) : (Lib.bytesWorld w e s).frozen? ⟨w.heap.size, i, none⟩ = false := by
  have := bytes_size w e s
  unfold World.frozen?
  rw [Lib.bytesWorld_at_new]
  simp; omega

set_option maxRecDepth 100000 in
set_option maxHeartbeats 1600000 in
theorem turned_any (F0 : World) (F : Facts F0) (v a b : Nat) (hv : v < 4294967296) (ha : a < 256) (hbb : b < 256) (w : World) (hB : Below F0.heap.size F0 w) :
    Calls Tryd.prog 5 #[.int .u32 v, .int .u8 a, .int .u8 b] w fun e w' => e = .returned (.bool true) ∧ Below w.heap.size w w' := by
  have hnot : ∀ (x : Bool) (w : World), (Op.unary .not (.bool x)).run Tryd.prog w = .ok (.bool (!x)) w := fun _ _ => rfl
  have hcb := fun (w : World) (s : ByteArray) => Lib.run_convert_string_bytes (P := Tryd.prog) w 9 35 5 s Tryd.underlying9 Tryd.underlying35 Tryd.underlying5
  have HB := Lib.hid hB; clear hB
  by_cases hv0 : v = 0
  · have hv1 : v ≤ 0 := by omega
    clear hv0
    go_enter Tryd.func5, Tryd.ntmps5
    go_wp2_with fail
    refine (new_any w).mono ?_
    rintro e w1 ⟨rfl, hs1, hb1⟩
    have HB1 := Lib.hid hb1; clear hb1 hs1
    go_wp2_with fail
    refine (awake_any F0 F _ (HB.out.trans (HB1.out.mono HB.out.size))).mono ?_
    rintro e w2 ⟨rfl, hb2⟩
    have HB2 := Lib.hid (below_then HB1.out hb2); clear hb2
    go_wp2_with fail
    refine (awake_any F0 F _ (HB.out.trans (HB2.out.mono HB.out.size))).mono ?_
    rintro e w3 ⟨rfl, hb3⟩
    have HB3 := Lib.hid (below_then HB2.out hb3); clear hb3
    go_wp2
    go_ret
    exact ⟨rfl, HB3.out⟩
  · have hv1 : 1 ≤ v := by omega
    clear hv0
    go_enter Tryd.func5, Tryd.ntmps5
    go_wp2_with fail
    refine (new_any w).mono ?_
    rintro e w1 ⟨rfl, hs1, hb1⟩
    have hb0 : F0.heap.size ≤ w.heap.size := HB.out.size
    have hS1 : Summ w1 w.heap.size := ⟨0, .inl hs1⟩
    have HS1 := Lib.hid hS1; clear hS1 hs1
    have HB1 := Lib.hid hb1; clear hb1
    go_wp2_with fail
    refine (awake_any F0 F _ (HB.out.trans (HB1.out.mono hb0))).mono ?_
    rintro e w2 ⟨rfl, hb2⟩
    have HS2 := Lib.hid (HS1.out.below hb2)
    have HB2 := Lib.hid (below_then HB1.out hb2); clear hb2
    clear HS1 HB1
    have hput := put_ok F0 F w.heap.size hb0 w2 (HB.out.trans (HB2.out.mono hb0)) HS2.out v hv1 (by omega)
    go_wp2_with fail
    refine hput.mono ?_
    clear hput
    rintro e w3 ⟨rfl, hs3, hk3⟩
    have HS3 := Lib.hid hs3; clear hs3
    have HB3 := Lib.hid (Keep.below HB2.out (Nat.le_refl _) hk3); clear hk3
    clear HS2 HB2
    have hts := tok_size v (by omega)
    have htl : (tok v).size = (tokL v).length := by show (tokL v).toArray.size = _; simp
    have htp : 0 < (tokL v).length := by rw [tokL_length]; omega
    rw [htl] at hts
    have htz : 0 < (tok v).size := by rw [htl]; exact htp
    have htn : ((tok v).toList == []) = false := by
      rw [beq_eq_false_iff_ne, ByteArray.toList_eq]
      intro h
      have h1 := congrArg List.length h
      have h2 : (tok v).data.toList.length = (tok v).size := by rw [Array.length_toList]; rfl
      rw [h2] at h1
      rw [h1] at htz
      simp at htz
    have hdata : (tok v).data.toList = tokL v := by simp [tok]
    obtain ⟨t, ht⟩ : ∃ t, tok v = t := ⟨_, rfl⟩
    rw [ht] at htl htn htz hdata ⊢
    have hts2 : t.size ≤ 30 := by rw [htl]; exact hts
    have HTL := Lib.hid htl; clear htl htp hts
    have HD := Lib.hid hdata; clear hdata
    obtain ⟨i, hi⟩ : ∃ i, a % t.size = i := ⟨_, rfl⟩
    have hil : i < t.size := by rw [← hi]; exact Nat.mod_lt _ htz
    have him : ((a : Int) % (t.size : Int)) = (i : Int) := by rw [← hi]; exact (Int.natCast_emod a t.size).symm
    clear hi
    obtain ⟨c, hc⟩ : ∃ c : UInt8, t[i] = c := ⟨_, rfl⟩
    have hcell : (Lib.bytesWorld w3 5 t).cell? ⟨w3.heap.size, i, none⟩ = some (.int .u8 (c.toNat : Nat)) := by rw [← hc]; exact bytes_cell w3 5 t i hil
    have hfro := bytes_frozen w3 5 t i hil
    have hcl : c.toNat < 256 := by have := c.toNat_lt; simpa using this
    have hcv := run_convert_bytes_arg (w := (Lib.bytesWorld w3 5 t).setCell ⟨w3.heap.size, i, none⟩ (.int .u8 b)) (P := Tryd.prog) 35 5 Tryd.underlying35 Tryd.underlying5 w3.heap.size 0 t.size (grownCap w3 t.size 0 5) (turnedNums v i b) (by simp [turnedNums, HTL.out])
      (fun j hj => by
        rw [Nat.zero_add]
        by_cases hij : i = j
        · subst hij
          rw [World.cell?_setCell_same _ _ _ hcell]
          have : i < (tokL v).length := by rw [← HTL.out]; exact hil
          simp [turnedNums, this]
        · rw [World.cell?_setCell_other _ _ _ _ (by intro h; simp [hij] at h), bytes_cell w3 5 t j hj]
          have h1 : j < (tokL v).length := by rw [← HTL.out]; exact hj
          have h2 : t[j] = (tokL v)[j] := by
            have e : t[j] = t.data.toList[j]'(by simpa using hj) := rfl
            rw [e]; simp only [HD.out]
          simp [turnedNums, h1, hij, h2]) 9 Tryd.underlying9
    have hss : (strOfNums (turnedNums v i b)).size ≤ 1000 := by rw [strOfNums_size]; simp [turnedNums, ← HTL.out]; omega
    have hW4 : Below w.heap.size w ((Lib.bytesWorld w3 5 t).setCell ⟨w3.heap.size, i, none⟩ (.int .u8 b)) := (HB3.out.trans ((below_bytes (Below.refl _ _) (Nat.le_refl _) 5 t).mono HB3.out.size)).setCell HB3.out.size _
    have hS4 : Summ ((Lib.bytesWorld w3 5 t).setCell ⟨w3.heap.size, i, none⟩ (.int .u8 b)) w.heap.size := by
      have h0 := HS3.out.below (below_bytes (Below.refl _ _) (Nat.le_refl _) 5 t)
      obtain ⟨q, h0⟩ := h0
      have hne : w.heap.size ≠ w3.heap.size := by have := HS3.out.lt; omega
      exact ⟨q, h0.imp (fun h => blk_far h hne _) (fun h => blk_far h hne _)⟩
    have hget := get_all F0 F w.heap.size hb0 _ (HB.out.trans (hW4.mono hb0)) hS4 (strOfNums (turnedNums v i b)) hss
    have HW4 := Lib.hid hW4; clear hW4
    have HG := Lib.hid hget; clear hget
    have hstr := turned_str v i b hbb
    have HSTR := Lib.hid hstr; clear hstr
    have HC := Lib.hid hc; clear hc
    have HT := Lib.hid ht; clear ht
    have htok : (tokL v)[i]'(by rw [← HTL.out]; exact hil) = c := by
      rw [← HC.out]
      have e : t[i] = t.data.toList[i]'(by simpa using hil) := rfl
      rw [e]; simp only [HD.out]
    have HTOK := Lib.hid htok; clear htok
    by_cases hcb' : c.toNat = b
    · have hsame : (((c.toNat : Nat) : Int) == (b : Int)) = true := by simp [hcb']
      have hO : getO (strOfNums (turnedNums v i b)).data.toList = v := by
        rw [HSTR.out]
        have e : UInt8.ofNat b = c := by rw [← hcb']; simp
        have e2 : (tokL v).set i (UInt8.ofNat b) = tokL v := by rw [e, ← HTOK.out]; simp
        rw [e2]; exact getO_tok v hv1 (by omega)
      have HO := Lib.hid hO; clear hO
      clear hcb'
      go_wp2_with fail
      refine HG.out.mono ?_
      rintro e w5 ⟨rfl, hs5, hk5⟩
      rw [HO.out, show getE v = 0 from if_neg (by omega)]
      have HB5 := Lib.hid (Keep.below HW4.out (Nat.le_refl _) hk5); clear hk5 hs5
      go_wp2
      go_ret
      exact ⟨rfl, HB5.out⟩
    · have hsame : (((c.toNat : Nat) : Int) == (b : Int)) = false := by simp; omega
      have hO : getO (strOfNums (turnedNums v i b)).data.toList = 0 := by
        rw [HSTR.out]
        refine turned_none v i _ (by rw [← HTL.out]; exact hil) ?_
        rw [HTOK.out]
        intro h
        apply hcb'
        rw [← h, UInt8.toNat_ofNat']; omega
      have HO := Lib.hid hO; clear hO
      clear hcb'
      go_wp2_with fail
      refine HG.out.mono ?_
      rintro e w5 ⟨rfl, hs5, hk5⟩
      rw [HO.out, show getE 0 = 160 from rfl]
      have HB5 := Lib.hid (Keep.below HW4.out (Nat.le_refl _) hk5); clear hk5 hs5
      go_wp2
      go_ret
      exact ⟨rfl, HB5.out⟩
end Go.Proofs.YtkkfoolflnpegaaDoor
