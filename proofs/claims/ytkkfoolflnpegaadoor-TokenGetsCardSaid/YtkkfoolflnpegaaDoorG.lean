/- The walk of token.Get, in its cases. No condition of ours. -/
import Derived.Test.YtkkfoolflnpegaaDoorP
import Derived.WideLaws
namespace Go.Proofs.YtkkfoolflnpegaaDoor
set_option linter.unusedVariables false
set_option linter.unusedSimpArgs false
open Go Go.RowKit

/-- what stands ahead of the point, behind the v -/
def headOf (t : List UInt8) : List UInt8 := (Lib.cut (Lib.trimPrefix t [118]) [46]).1

theorem parse_le : ∀ (l : List UInt8) (acc u : Nat), acc ≤ 4294967295 → Lib.parseUintM 4294967295 acc l = .ok u → u ≤ 4294967295
  | [], acc, u, ha, h => by simp only [Lib.parseUintM, Lib.NumEnd.ok.injEq] at h; omega
  | c :: r, acc, u, ha, h => by
    unfold Lib.parseUintM at h
    split at h
    · split at h
      · cases h
      · split at h
        · cases h
        · exact parse_le r _ u (by omega) h
    · cases h
theorem parseB_le (l : List UInt8) (u : Nat) (h : Lib.parseUintB 32 l = .ok u) : u ≤ 4294967295 := by
  unfold Lib.parseUintB at h
  split at h
  · cases h
  · rw [show (2 ^ 32 - 1 : Nat) = 4294967295 from by decide] at h
    exact parse_le l 0 u (by omega) h
theorem cut_fst_le (s sep : List UInt8) : (Lib.cut s sep).1.length ≤ s.length := by
  unfold Lib.cut
  split
  · exact List.length_take_le' _ _
  · exact Nat.le_refl _
theorem headOf_le (t : List UInt8) : (headOf t).length ≤ t.length := Nat.le_trans (cut_fst_le _ _) (Lib.trimPrefix_le _ _)
theorem below_or {w w' : World} {s : ByteArray} (h : w' = w ∨ w' = Lib.bytesWorld w 5 s) : Below w.heap.size w w' := by
  rcases h with h | h
  · rw [h]; exact Below.refl _ _
  · rw [h]; exact below_bytes (Below.refl _ _) (Nat.le_refl _) 5 _
theorem ba_ne {a b : ByteArray} (h : a ≠ b) : (a.toList == b.toList) = false := by
  rw [beq_eq_false_iff_ne]
  intro e
  rw [ByteArray.toList_eq, ByteArray.toList_eq] at e
  exact h (ba_ext e)

theorem parse_bad (s : ByteArray) (hlim : s.size ≤ 281474976710656) (hno : ∀ u, Lib.parseUintB 32 s.data.toList ≠ .ok u) (w : World) (F : Facts w) :
    Calls Tryd.prog 20 #[.string s, .int .i64 10, .int .i64 32] w fun e w' => ∃ (n : Int) (N : Nat), e = .returned (.tuple #[.int .u64 n, .iface 80 (.pointer (some ⟨N, 0, none⟩))]) ∧ Below w.heap.size w w' := by
  cases hq : Lib.parseUintB 32 s.data.toList
  · exact absurd hq (hno _)
  · obtain ⟨ev, hv, hev⟩ := F.e1
    have h := Any.strconv_ParseUint_10_at32_syntax Tryd.laysPu14 s hlim hq ev w hv hev
    exact h.mono fun e w' ⟨N, h1, _, _, h4⟩ => ⟨_, N, h1, h4⟩
  · obtain ⟨ev, hv, hev⟩ := F.e2
    have h := Any.strconv_ParseUint_10_at32_range Tryd.laysPu14 s hlim hq ev w hv hev
    exact h.mono fun e w' ⟨N, h1, _, _, h4⟩ => ⟨_, N, h1, h4⟩

set_option maxRecDepth 100000 in
theorem get_bad (w0 : World) (F : Facts w0) (b : Nat) (hb0 : w0.heap.size ≤ b) (w : World) (hB : Below w0.heap.size w0 w) (hs : Summ w b) (t : ByteArray) (ht : t.size ≤ 1000) (hp : ∀ u, Lib.parseUintB 32 (headOf t.data.toList) ≠ .ok u) :
    Calls Tryd.prog 13 #[.pointer (some ⟨b, 0, none⟩), .string t] w fun e w' => e = .returned (.tuple #[.int .i64 0, .int .i64 160]) ∧ Summ w' b ∧ Keep b w w' := by
  have HB := Lib.hid hB; clear hB
  have HS := Lib.hid hs; clear hs
  have HP := Lib.hid hp; clear hp
  obtain ⟨m, hm⟩ := (F.below HB.out).most
  have HM := Lib.hid hm; clear hm
  go_enter Tryd.func13, Tryd.ntmps13
  go_wp2_with fail
  refine (Tryd.strings_TrimPrefix t _ _).mono ?_
  rintro e w1 ⟨rfl, hw1⟩
  obtain rfl : w = w1 := hw1.symm
  clear hw1
  go_wp2_with fail
  have hl : (⟨(Lib.trimPrefix t.data.toList [118]).toArray⟩ : ByteArray).size < 4294967281 := by
    have h1 := Lib.trimPrefix_le t.data.toList [118]
    have h2 : t.data.toList.length = t.size := by rw [Array.length_toList]; rfl
    show (Lib.trimPrefix t.data.toList [118]).toArray.size < _
    rw [List.size_toArray]; omega
  have hcut := Tryd.strings_Cut ⟨(Lib.trimPrefix t.data.toList [118]).toArray⟩ ⟨#[46]⟩ m w hl HM.out
  refine hcut.mono ?_
  clear hcut hl
  rintro e w1 ⟨rfl, n, hn⟩
  have hb1 : Below w.heap.size w w1 := by rw [hn]; exact below_drewN (Below.refl _ _) n
  clear hn n
  have hhl : (headOf t.data.toList).length ≤ 1000 := by
    have h1 := headOf_le t.data.toList
    have h2 : t.data.toList.length = t.size := by rw [Array.length_toList]; rfl
    omega
  obtain ⟨hd, hhd⟩ : ∃ hd, headOf t.data.toList = hd := ⟨_, rfl⟩
  have e1 : (Lib.cut (⟨(Lib.trimPrefix t.data.toList [118]).toArray⟩ : ByteArray).data.toList (⟨#[46]⟩ : ByteArray).data.toList).1 = hd := hhd
  obtain ⟨c2, hc2⟩ : ∃ c2, (Lib.cut (⟨(Lib.trimPrefix t.data.toList [118]).toArray⟩ : ByteArray).data.toList (⟨#[46]⟩ : ByteArray).data.toList).2.1 = c2 := ⟨_, rfl⟩
  obtain ⟨c3, hc3⟩ : ∃ c3, (Lib.cut (⟨(Lib.trimPrefix t.data.toList [118]).toArray⟩ : ByteArray).data.toList (⟨#[46]⟩ : ByteArray).data.toList).2.2 = c3 := ⟨_, rfl⟩
  rw [e1, hc2, hc3]
  rw [hhd] at hhl
  have hp := HP.out
  rw [hhd] at hp
  clear HP e1 hc2 hc3 hhd
  have hsz : (⟨hd.toArray⟩ : ByteArray).size ≤ 1000 := by show hd.toArray.size ≤ 1000; simpa using hhl
  have HP := Lib.hid hp; clear hp
  have HB1 := Lib.hid hb1; clear hb1
  go_wp2_with fail
  refine (parse_bad ⟨hd.toArray⟩ (by omega) HP.out _ ((F.below HB.out).below HB1.out)).mono ?_
  rintro e w2 ⟨n, N, rfl, hb2⟩
  have HB2 := Lib.hid (HB1.out.trans (hb2.mono HB1.out.size)); clear hb2
  go_wp2
  go_ret2
  exact ⟨rfl, HS.out.below HB2.out, Keep.of_below HB2.out⟩

set_option maxRecDepth 100000 in
theorem get_zero (w0 : World) (F : Facts w0) (b : Nat) (hb0 : w0.heap.size ≤ b) (w : World) (hB : Below w0.heap.size w0 w) (hs : Summ w b) (t : ByteArray) (ht : t.size ≤ 1000) (hp : Lib.parseUintB 32 (headOf t.data.toList) = .ok 0) :
    Calls Tryd.prog 13 #[.pointer (some ⟨b, 0, none⟩), .string t] w fun e w' => e = .returned (.tuple #[.int .i64 0, .int .i64 160]) ∧ Summ w' b ∧ Keep b w w' := by
  have HB := Lib.hid hB; clear hB
  have HS := Lib.hid hs; clear hs
  have HP := Lib.hid hp; clear hp
  obtain ⟨m, hm⟩ := (F.below HB.out).most
  have HM := Lib.hid hm; clear hm
  go_enter Tryd.func13, Tryd.ntmps13
  go_wp2_with fail
  refine (Tryd.strings_TrimPrefix t _ _).mono ?_
  rintro e w1 ⟨rfl, hw1⟩
  obtain rfl : w = w1 := hw1.symm
  clear hw1
  go_wp2_with fail
  have hl : (⟨(Lib.trimPrefix t.data.toList [118]).toArray⟩ : ByteArray).size < 4294967281 := by
    have h1 := Lib.trimPrefix_le t.data.toList [118]
    have h2 : t.data.toList.length = t.size := by rw [Array.length_toList]; rfl
    show (Lib.trimPrefix t.data.toList [118]).toArray.size < _
    rw [List.size_toArray]; omega
  have hcut := Tryd.strings_Cut ⟨(Lib.trimPrefix t.data.toList [118]).toArray⟩ ⟨#[46]⟩ m w hl HM.out
  refine hcut.mono ?_
  clear hcut hl
  rintro e w1 ⟨rfl, n, hn⟩
  have hb1 : Below w.heap.size w w1 := by rw [hn]; exact below_drewN (Below.refl _ _) n
  clear hn n
  have hhl : (headOf t.data.toList).length ≤ 1000 := by
    have h1 := headOf_le t.data.toList
    have h2 : t.data.toList.length = t.size := by rw [Array.length_toList]; rfl
    omega
  obtain ⟨hd, hhd⟩ : ∃ hd, headOf t.data.toList = hd := ⟨_, rfl⟩
  have e1 : (Lib.cut (⟨(Lib.trimPrefix t.data.toList [118]).toArray⟩ : ByteArray).data.toList (⟨#[46]⟩ : ByteArray).data.toList).1 = hd := hhd
  obtain ⟨c2, hc2⟩ : ∃ c2, (Lib.cut (⟨(Lib.trimPrefix t.data.toList [118]).toArray⟩ : ByteArray).data.toList (⟨#[46]⟩ : ByteArray).data.toList).2.1 = c2 := ⟨_, rfl⟩
  obtain ⟨c3, hc3⟩ : ∃ c3, (Lib.cut (⟨(Lib.trimPrefix t.data.toList [118]).toArray⟩ : ByteArray).data.toList (⟨#[46]⟩ : ByteArray).data.toList).2.2 = c3 := ⟨_, rfl⟩
  rw [e1, hc2, hc3]
  rw [hhd] at hhl
  have hp := HP.out
  rw [hhd] at hp
  clear HP e1 hc2 hc3 hhd
  have hsz : (⟨hd.toArray⟩ : ByteArray).size ≤ 1000 := by show hd.toArray.size ≤ 1000; simpa using hhl
  have HP := Lib.hid hp; clear hp
  have HB1 := Lib.hid hb1; clear hb1
  go_wp2_with fail
  refine (Tryd.strconv_ParseUint_10_at32_ok ⟨hd.toArray⟩ (by omega) 0 HP.out _).mono ?_
  rintro e w2 ⟨rfl, hw2⟩
  have hb2 := below_or hw2
  clear hw2
  have HB2 := Lib.hid (HB1.out.trans (hb2.mono HB1.out.size)); clear hb2
  go_wp2_with (go_at_call 10; refine (put_bad ⟨b, 0, none⟩ _ 0 (by omega)).mono ?_; rintro e w' ⟨rfl, rfl⟩)
  go_ret2
  exact ⟨rfl, HS.out.below HB2.out, Keep.of_below HB2.out⟩

set_option maxRecDepth 100000 in
theorem get_ok (w0 : World) (F : Facts w0) (b : Nat) (hb0 : w0.heap.size ≤ b) (w : World) (hB : Below w0.heap.size w0 w) (hs : Summ w b) (t : ByteArray) (ht : t.size ≤ 1000) (u : Nat) (hp : Lib.parseUintB 32 (headOf t.data.toList) = .ok u) (h1 : 1 ≤ u) (he : tok u = t) :
    Calls Tryd.prog 13 #[.pointer (some ⟨b, 0, none⟩), .string t] w fun e w' => e = .returned (.tuple #[.int .i64 u, .int .i64 0]) ∧ Summ w' b ∧ Keep b w w' := by
  have HB := Lib.hid hB; clear hB
  have HS := Lib.hid hs; clear hs
  have HP := Lib.hid hp; clear hp
  have HE := Lib.hid he; clear he
  have hu := parseB_le _ _ HP.out
  obtain ⟨m, hm⟩ := (F.below HB.out).most
  have HM := Lib.hid hm; clear hm
  go_enter Tryd.func13, Tryd.ntmps13
  go_wp2_with fail
  refine (Tryd.strings_TrimPrefix t _ _).mono ?_
  rintro e w1 ⟨rfl, hw1⟩
  obtain rfl : w = w1 := hw1.symm
  clear hw1
  go_wp2_with fail
  have hl : (⟨(Lib.trimPrefix t.data.toList [118]).toArray⟩ : ByteArray).size < 4294967281 := by
    have h1 := Lib.trimPrefix_le t.data.toList [118]
    have h2 : t.data.toList.length = t.size := by rw [Array.length_toList]; rfl
    show (Lib.trimPrefix t.data.toList [118]).toArray.size < _
    rw [List.size_toArray]; omega
  have hcut := Tryd.strings_Cut ⟨(Lib.trimPrefix t.data.toList [118]).toArray⟩ ⟨#[46]⟩ m w hl HM.out
  refine hcut.mono ?_
  clear hcut hl
  rintro e w1 ⟨rfl, n, hn⟩
  have hb1 : Below w.heap.size w w1 := by rw [hn]; exact below_drewN (Below.refl _ _) n
  clear hn n
  have hhl : (headOf t.data.toList).length ≤ 1000 := by
    have h1 := headOf_le t.data.toList
    have h2 : t.data.toList.length = t.size := by rw [Array.length_toList]; rfl
    omega
  obtain ⟨hd, hhd⟩ : ∃ hd, headOf t.data.toList = hd := ⟨_, rfl⟩
  have e1 : (Lib.cut (⟨(Lib.trimPrefix t.data.toList [118]).toArray⟩ : ByteArray).data.toList (⟨#[46]⟩ : ByteArray).data.toList).1 = hd := hhd
  obtain ⟨c2, hc2⟩ : ∃ c2, (Lib.cut (⟨(Lib.trimPrefix t.data.toList [118]).toArray⟩ : ByteArray).data.toList (⟨#[46]⟩ : ByteArray).data.toList).2.1 = c2 := ⟨_, rfl⟩
  obtain ⟨c3, hc3⟩ : ∃ c3, (Lib.cut (⟨(Lib.trimPrefix t.data.toList [118]).toArray⟩ : ByteArray).data.toList (⟨#[46]⟩ : ByteArray).data.toList).2.2 = c3 := ⟨_, rfl⟩
  rw [e1, hc2, hc3]
  rw [hhd] at hhl
  have hp := HP.out
  rw [hhd] at hp
  clear HP e1 hc2 hc3 hhd
  have hsz : (⟨hd.toArray⟩ : ByteArray).size ≤ 1000 := by show hd.toArray.size ≤ 1000; simpa using hhl
  have HP := Lib.hid hp; clear hp
  have HB1 := Lib.hid hb1; clear hb1
  go_wp2_with fail
  refine (Tryd.strconv_ParseUint_10_at32_ok ⟨hd.toArray⟩ (by omega) u HP.out _).mono ?_
  rintro e w2 ⟨rfl, hw2⟩
  have hb2 := below_or hw2
  clear hw2
  have HB2 := Lib.hid (HB1.out.trans (hb2.mono HB1.out.size)); clear hb2
  have hput := put_ok w0 F b hb0 w2 (HB.out.trans (HB2.out.mono HB.out.size)) (HS.out.below HB2.out) u h1 hu
  go_wp2_with fail
  refine hput.mono ?_
  clear hput
  rintro e w3 ⟨rfl, hs3, hk3⟩
  have HS3 := Lib.hid hs3; clear hs3
  have HK3 := Lib.hid hk3; clear hk3
  rw [HE.out]
  go_wp2
  go_ret2
  exact ⟨rfl, HS3.out, (Keep.of_below HB2.out).trans HK3.out⟩

set_option maxRecDepth 100000 in
theorem get_other (w0 : World) (F : Facts w0) (b : Nat) (hb0 : w0.heap.size ≤ b) (w : World) (hB : Below w0.heap.size w0 w) (hs : Summ w b) (t : ByteArray) (ht : t.size ≤ 1000) (u : Nat) (hp : Lib.parseUintB 32 (headOf t.data.toList) = .ok u) (h1 : 1 ≤ u) (he : tok u ≠ t) :
    Calls Tryd.prog 13 #[.pointer (some ⟨b, 0, none⟩), .string t] w fun e w' => e = .returned (.tuple #[.int .i64 0, .int .i64 160]) ∧ Summ w' b ∧ Keep b w w' := by
  have HB := Lib.hid hB; clear hB
  have HS := Lib.hid hs; clear hs
  have HP := Lib.hid hp; clear hp
  have HE := Lib.hid he; clear he
  have hu := parseB_le _ _ HP.out
  obtain ⟨m, hm⟩ := (F.below HB.out).most
  have HM := Lib.hid hm; clear hm
  go_enter Tryd.func13, Tryd.ntmps13
  go_wp2_with fail
  refine (Tryd.strings_TrimPrefix t _ _).mono ?_
  rintro e w1 ⟨rfl, hw1⟩
  obtain rfl : w = w1 := hw1.symm
  clear hw1
  go_wp2_with fail
  have hl : (⟨(Lib.trimPrefix t.data.toList [118]).toArray⟩ : ByteArray).size < 4294967281 := by
    have h1 := Lib.trimPrefix_le t.data.toList [118]
    have h2 : t.data.toList.length = t.size := by rw [Array.length_toList]; rfl
    show (Lib.trimPrefix t.data.toList [118]).toArray.size < _
    rw [List.size_toArray]; omega
  have hcut := Tryd.strings_Cut ⟨(Lib.trimPrefix t.data.toList [118]).toArray⟩ ⟨#[46]⟩ m w hl HM.out
  refine hcut.mono ?_
  clear hcut hl
  rintro e w1 ⟨rfl, n, hn⟩
  have hb1 : Below w.heap.size w w1 := by rw [hn]; exact below_drewN (Below.refl _ _) n
  clear hn n
  have hhl : (headOf t.data.toList).length ≤ 1000 := by
    have h1 := headOf_le t.data.toList
    have h2 : t.data.toList.length = t.size := by rw [Array.length_toList]; rfl
    omega
  obtain ⟨hd, hhd⟩ : ∃ hd, headOf t.data.toList = hd := ⟨_, rfl⟩
  have e1 : (Lib.cut (⟨(Lib.trimPrefix t.data.toList [118]).toArray⟩ : ByteArray).data.toList (⟨#[46]⟩ : ByteArray).data.toList).1 = hd := hhd
  obtain ⟨c2, hc2⟩ : ∃ c2, (Lib.cut (⟨(Lib.trimPrefix t.data.toList [118]).toArray⟩ : ByteArray).data.toList (⟨#[46]⟩ : ByteArray).data.toList).2.1 = c2 := ⟨_, rfl⟩
  obtain ⟨c3, hc3⟩ : ∃ c3, (Lib.cut (⟨(Lib.trimPrefix t.data.toList [118]).toArray⟩ : ByteArray).data.toList (⟨#[46]⟩ : ByteArray).data.toList).2.2 = c3 := ⟨_, rfl⟩
  rw [e1, hc2, hc3]
  rw [hhd] at hhl
  have hp := HP.out
  rw [hhd] at hp
  clear HP e1 hc2 hc3 hhd
  have hsz : (⟨hd.toArray⟩ : ByteArray).size ≤ 1000 := by show hd.toArray.size ≤ 1000; simpa using hhl
  have HP := Lib.hid hp; clear hp
  have HB1 := Lib.hid hb1; clear hb1
  go_wp2_with fail
  refine (Tryd.strconv_ParseUint_10_at32_ok ⟨hd.toArray⟩ (by omega) u HP.out _).mono ?_
  rintro e w2 ⟨rfl, hw2⟩
  have hb2 := below_or hw2
  clear hw2
  have HB2 := Lib.hid (HB1.out.trans (hb2.mono HB1.out.size)); clear hb2
  have hput := put_ok w0 F b hb0 w2 (HB.out.trans (HB2.out.mono HB.out.size)) (HS.out.below HB2.out) u h1 hu
  go_wp2_with fail
  refine hput.mono ?_
  clear hput
  rintro e w3 ⟨rfl, hs3, hk3⟩
  have HS3 := Lib.hid hs3; clear hs3
  have HK3 := Lib.hid hk3; clear hk3
  have hne := ba_ne HE.out
  go_wp2
  go_ret2
  exact ⟨rfl, HS3.out, (Keep.of_below HB2.out).trans HK3.out⟩
end Go.Proofs.YtkkfoolflnpegaaDoor
