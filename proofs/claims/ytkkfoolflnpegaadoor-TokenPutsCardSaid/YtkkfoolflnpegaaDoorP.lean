/- The walk of token.Put. No condition of ours. -/
import Derived.Test.YtkkfoolflnpegaaDoorS
import Derived.Test.YtkkfoolflnpegaaDoorA
import Derived.Test.YtkkfoolflnpegaaDoorShelf
import Derived.Lib.ConvBytes
import Derived.Lib.AppendIntMem
namespace Go.Proofs.YtkkfoolflnpegaaDoor
set_option linter.unusedVariables false
set_option linter.unusedSimpArgs false
open Go Go.RowKit

/-- what the library's variables hold -/
structure Facts (w : World) : Prop where
  tab : Lib.TabIs Tryd.prog w "internal/strconv.uint64pow10" .u64 Lib.pow10Tab
  most : ∃ m : Int, w.cell? ⟨0, 0, none⟩ = some (.int .i64 m)
  e1 : ∃ ev, w.cell? ⟨1, 0, none⟩ = some ev ∧ (ev = .nilIface ∨ ∃ te pe, ev = .iface te pe)
  e2 : ∃ ev, w.cell? ⟨2, 0, none⟩ = some ev ∧ (ev = .nilIface ∨ ∃ te pe, ev = .iface te pe)

theorem var_below {P : Program} {w w1 : World} (h : Below w.heap.size w w1) {n : String} {cs : Array Value} (hv : w.var? P n = some cs) : w1.var? P n = some cs := by
  unfold World.var? at hv ⊢
  cases hg : P.globalNamed n with
  | none => simp [hg] at hv
  | some g =>
    simp only [hg, Option.bind_some] at hv ⊢
    have hlt : g < w.heap.size := by
      rcases Nat.lt_or_ge g w.heap.size with h' | h'
      · exact h'
      · simp [Array.getElem?_eq_none h'] at hv
    rw [h.block g hlt]
    exact hv
theorem Facts.below {w w1 : World} (F : Facts w) (h : Below w.heap.size w w1) : Facts w1 where
  tab := var_below h F.tab
  most := let ⟨m, hm⟩ := F.most; ⟨m, below_cell h hm⟩
  e1 := let ⟨m, hm, k⟩ := F.e1; ⟨m, below_cell h hm, k⟩
  e2 := let ⟨m, hm, k⟩ := F.e2; ⟨m, below_cell h hm, k⟩

theorem below_bytes {B : Nat} {w W : World} (h : Below B w W) (hB : B ≤ W.heap.size) (e : TypeId) (s : ByteArray) : Below B w (Lib.bytesWorld W e s) :=
  h.trans ⟨rfl, rfl, rfl, by rw [Lib.bytesWorld_size]; omega, fun k hk => Lib.bytesWorld_at_old W e s k (by omega)⟩

/-- what a version's token has ahead of the point -/
def headL (v : Nat) : List UInt8 := 118 :: Lib.decDigits v
def tokL (v : Nat) : List UInt8 := headL v ++ 46 :: (mark (crc (headL v))).data.toList
def tok (v : Nat) : ByteArray := ⟨(tokL v).toArray⟩

theorem digits_len (n : Nat) : ∀ (u : Nat), u < 10 ^ (n + 1) → (Lib.decDigits u).length ≤ n + 1 := by
  induction n with
  | zero => intro u hu; unfold Lib.decDigits; rw [dif_pos (by simpa using hu)]; simp
  | succ n ih =>
    intro u hu
    unfold Lib.decDigits
    split
    · simp
    · have := ih (u / 10) (by rw [Nat.pow_succ] at hu; omega)
      simp; omega
theorem itoa_size (v : Nat) (h : v ≤ 4294967295) : (⟨(Lib.itoa v).toArray⟩ : ByteArray).size ≤ 20 := by
  have := digits_len 9 v (by omega)
  have e : Lib.itoa (v : Int) = Lib.decDigits v := by unfold Lib.itoa; rw [if_neg (by omega)]; simp
  rw [e]
  show (Lib.decDigits v).toArray.size ≤ 20
  simp; omega

theorem mark_size (q : Nat) : (mark q).size = 8 := by unfold mark; rw [strOfNums_size]; simp [markNums]

theorem bytes_cell (w : World) (e : TypeId) (s : ByteArray) (i : Nat) (hi : i < s.size) : (Lib.bytesWorld w e s).cell? ⟨w.heap.size, i, none⟩ = some (.int .u8 (s[i].toNat : Nat)) := by
  rw [Lib.bytesWorld_cell _ _ _ _ hi]
  have e1 : s.data.toList.getD i 0 = s[i] := by
    rw [List.getD_eq_getElem?_getD, List.getElem?_eq_getElem (by simpa using hi)]; rfl
  rw [e1]
theorem ba_ext {a b : ByteArray} (h : a.data.toList = b.data.toList) : a = b := by
  cases a; cases b; simp only [ByteArray.mk.injEq]; exact Array.ext' h
theorem itoa_nat (v : Nat) : Lib.itoa (v : Int) = Lib.decDigits v := by unfold Lib.itoa; rw [if_neg (by omega)]; simp
theorem tok_eq (v : Nat) (d : ByteArray) (q : Nat) (m : ByteArray) (hd : (⟨(Lib.itoa v).toArray⟩ : ByteArray) = d) (hq : crc ((⟨#[118]⟩ ++ d : ByteArray).data.toList) = q) (hm : mark q = m) :
    (⟨#[118]⟩ ++ d ++ ⟨#[46]⟩ ++ m : ByteArray) = tok v := by
  subst hd hq hm
  apply ba_ext
  simp [tok, tokL, headL, itoa_nat]

set_option maxRecDepth 100000 in
theorem put_ok (w0 : World) (F : Facts w0) (b : Nat) (hb0 : w0.heap.size ≤ b) (w : World) (hB : Below w0.heap.size w0 w) (hs : Summ w b) (v : Nat) (h1 : 1 ≤ v) (h2 : v ≤ 4294967295) :
    Calls Tryd.prog 10 #[.pointer (some ⟨b, 0, none⟩), .int .i64 v] w fun e w' => e = .returned (.tuple #[.string (tok v), .int .i64 0]) ∧ Summ w' b ∧ Keep b w w' := by
  have hcb := fun (w : World) (s : ByteArray) => Lib.run_convert_string_bytes (P := Tryd.prog) w 9 35 5 s Tryd.underlying9 Tryd.underlying35 Tryd.underlying5
  have HB := Lib.hid hB; clear hB
  have HS := Lib.hid hs; clear hs
  go_enter Tryd.func10, Tryd.ntmps10
  go_wp2_with fail
  refine (Tryd.strconv_Itoa v (by omega) (by omega) _ (F.below HB.out).tab).mono ?_
  rintro e w1 ⟨rfl, k, os, hw1⟩
  have hb1 : Below w.heap.size w w1 := by rw [hw1]; exact Lib.below_grow _ _ (Nat.le_refl _) _ _
  clear hw1 k os
  have hB1 := HB.out.trans (hb1.mono HB.out.size)
  have hs1 := HS.out.below hb1
  have HB1 := Lib.hid hb1; clear hb1
  have HS1 := Lib.hid hs1; clear hs1
  have HB2 := Lib.hid hB1; clear hB1
  obtain ⟨d, hd⟩ : ∃ d : ByteArray, (⟨(Lib.itoa v).toArray⟩ : ByteArray) = d := ⟨_, rfl⟩
  have hdl : d.size ≤ 20 := by rw [← hd]; exact itoa_size v h2
  rw [hd]
  have HD := Lib.hid hd; clear hd
  go_wp2_with fail
  have a1 := HS1.out.below (below_bytes (Below.refl _ _) (Nat.le_refl _) 5 (⟨#[118]⟩ ++ d))
  have a2 : (⟨#[118]⟩ ++ d : ByteArray).size = 1 + d.size := by rw [ByteArray.size_append]; rfl
  have a3 : w1.heap.size ≠ b := by have := HS1.out.lt; omega
  have a4 := bytes_cell w1 5 (⟨#[118]⟩ ++ d)
  have a5 : 1 + d.size ≤ 1099511627776 := by omega
  have hof := of_any b w1.heap.size (1 + d.size) (grownCap w1 (1 + d.size) 0 5) (⟨#[118]⟩ ++ d) (Lib.bytesWorld w1 5 (⟨#[118]⟩ ++ d))
  replace hof := hof a1 a2 a5 a3 a4
  clear a1 a2 a3 a4 a5
  refine hof.mono ?_
  clear hof
  rintro e w2 ⟨rfl, hr2, hk2⟩
  have hk3 : Keep b w w2 := (Keep.of_below HB1.out).trans ((Keep.of_below (below_bytes (Below.refl _ _) (Nat.le_refl _) 5 _)).trans hk2)
  have HR := Lib.hid hr2; clear hr2
  have HK := Lib.hid hk3; clear hk3 hk2
  have hml := crc_lt ((⟨#[118]⟩ ++ d : ByteArray).data.toList)
  obtain ⟨q, hq⟩ : ∃ q, crc ((⟨#[118]⟩ ++ d : ByteArray).data.toList) = q := ⟨_, rfl⟩
  rw [hq] at hml ⊢
  have HQ := Lib.hid hq; clear hq
  go_wp2_with fail
  refine (mark_any q hml _).mono ?_
  rintro e w3 ⟨rfl, hb3⟩
  have hms : (mark q).size = 8 := mark_size q
  obtain ⟨m, hm⟩ : ∃ m, mark q = m := ⟨_, rfl⟩
  rw [hm] at hms ⊢
  have HM := Lib.hid hm; clear hm
  have HB3 := Lib.hid hb3; clear hb3
  go_wp2
  go_ret2
  have hs3 := (HR.out.summ).below HB3.out
  have hk3 := HK.out.trans (Keep.of_below HB3.out)
  have ht := tok_eq v d q m HD.out HQ.out HM.out
  refine ⟨?_, hs3, hk3⟩
  rw [← ht]
  rfl

set_option maxRecDepth 100000 in
theorem put_bad (b : Addr) (w : World) (v : Int) (h : v < 1 ∨ 4294967295 < v) :
    Calls Tryd.prog 10 #[.pointer (some b), .int .i64 v] w fun e w' => e = .returned (.tuple #[.string ⟨#[]⟩, .int .i64 160]) ∧ w = w' := by
  rcases h with h | h
  · go_enter Tryd.func10, Tryd.ntmps10
    go_wp2_with fail
    go_ret2
    exact ⟨rfl, rfl⟩
  · have h' : ¬ v < 1 := by omega
    go_enter Tryd.func10, Tryd.ntmps10
    go_wp2_with fail
    go_ret2
    exact ⟨rfl, rfl⟩
end Go.Proofs.YtkkfoolflnpegaaDoor
