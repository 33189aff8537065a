/- What script.Read computes, and what two texts, one behind the other, are. No condition of ours. -/
import Derived.Test.YtbdoafigggcdpaaGreatDoorVMA
namespace Go.Proofs.YtbdoafigggcdpaaGreatDoor.PScr
open Go.RowKit Go.Proofs.YtbdoafigggcdpaaGreatDoorW.PrintWords Go.Proofs.YtbdoafigggcdpaaGreatDoorW.PrintLast Go.Proofs.YtbdoafigggcdpaaGreatDoorW.PrintMore
set_option linter.unusedVariables false
set_option linter.unusedSimpArgs false

/-! ### cut at one byte -/
theorem index_one_none : ∀ (l : List UInt8) (b : UInt8), b ∉ l → Lib.index l [b] = -1
  | [], b, _ => rfl
  | c :: l, b, h => by
    simp only [List.mem_cons, not_or] at h
    have e : [b].isPrefixOf (c :: l) = false := by simp [List.isPrefixOf, h.1]
    unfold Lib.index
    rw [e, index_one_none l b h.2]
    rfl
theorem index_one_mid : ∀ (a : List UInt8) (b : UInt8) (c : List UInt8), b ∉ a → Lib.index (a ++ b :: c) [b] = a.length
  | [], b, c, _ => by
    show Lib.index (b :: c) [b] = _
    unfold Lib.index
    simp [List.isPrefixOf]
  | d :: a, b, c, h => by
    simp only [List.mem_cons, not_or] at h
    have e : [b].isPrefixOf (d :: (a ++ b :: c)) = false := by simp [List.isPrefixOf, h.1]
    show Lib.index (d :: (a ++ b :: c)) [b] = _
    unfold Lib.index
    rw [e, index_one_mid a b c h.2]
    have e2 : ((a.length : Int) == -1) = false := by rw [beq_eq_false_iff_ne]; omega
    rw [e2]
    simp
theorem cut_none (l : List UInt8) (b : UInt8) (h : b ∉ l) : Lib.cut l [b] = (l, [], false) := by
  unfold Lib.cut
  rw [index_one_none l b h]
  rfl
theorem cut_mid (a : List UInt8) (b : UInt8) (c : List UInt8) (h : b ∉ a) : Lib.cut (a ++ b :: c) [b] = (a, c, true) := by
  unfold Lib.cut
  rw [index_one_mid a b c h, if_pos (by omega)]
  simp
def nlb : ByteArray := ⟨#[10]⟩
theorem cut1_none (s : ByteArray) (b : UInt8) (h : b ∉ s.data.toList) : cut1 s ⟨#[b]⟩ = s ∧ cut2 s ⟨#[b]⟩ = ⟨#[]⟩ := by
  unfold cut1 cut2
  have e : (⟨#[b]⟩ : ByteArray).data.toList = [b] := rfl
  rw [e, cut_none _ _ h]
  exact ⟨ba_ext (by simp), rfl⟩
theorem cut1_mid (s : ByteArray) (a : List UInt8) (b : UInt8) (c : List UInt8) (hs : s.data.toList = a ++ b :: c) (h : b ∉ a) : cut1 s ⟨#[b]⟩ = ⟨a.toArray⟩ ∧ cut2 s ⟨#[b]⟩ = ⟨c.toArray⟩ := by
  unfold cut1 cut2
  have e : (⟨#[b]⟩ : ByteArray).data.toList = [b] := rfl
  rw [e, hs, cut_mid _ _ _ h]
  exact ⟨rfl, rfl⟩

/-! ### what Read computes -/
/-- the line that a text may be -/
def lineOf (s : ByteArray) : S29 := ⟨wordOf s, (partsOf s).xs, (partsOf s).ts, (partsOf s).signs, textOf s⟩
/-- has a line a text? -/
def goodL (x : S29) : Bool := checkE (findE x.f0) (findB x.f0) x.f1 x.f2 x.f3 x.f4
/-- a line that has one, as a text -/
def textLn (x : S29) : ByteArray := lineText x.f0 x.f1 x.f2 x.f3 x.f4
/-- is a text's first line the text of a line? -/
def lineGood (s : ByteArray) : Bool := goodL (lineOf (cut1 s nlb)) && (textLn (lineOf (cut1 s nlb))).data.toList.isPrefixOf s.data.toList
/-- lines, number of the line that is wrong, is it right? -/
def readGo : Nat → ByteArray → List S29 → Nat → List S29 × Nat × Bool
  | 0, s, acc, n => (acc, 0, true)
  | f + 1, s, acc, n => if s.size = 0 then (acc, 0, true) else if lineGood s then readGo f (cut2 s nlb) (acc ++ [lineOf (cut1 s nlb)]) (n + 1) else ([], n, false)
def readAll (s : ByteArray) : List S29 × Nat × Bool := readGo (s.size + 1) s [] 1

theorem textLn_end (x : S29) : ∃ l, (textLn x).data.toList = l ++ [10] := ⟨(joined _).data.toList, by unfold textLn lineText; rw [ByteArray.data_append]; simp; rfl⟩
theorem mk_toList (l : List UInt8) : (⟨l.toArray⟩ : ByteArray).data.toList = l := by simp
theorem size_len (s : ByteArray) : s.data.toList.length = s.size := by rw [Array.length_toList]; rfl
theorem good_split (s : ByteArray) (h : lineGood s = true) : s.data.toList = (cut1 s nlb).data.toList ++ 10 :: (cut2 s nlb).data.toList ∧ 10 ∉ (cut1 s nlb).data.toList := by
  unfold lineGood at h
  rw [Bool.and_eq_true] at h
  obtain ⟨l, hl⟩ := textLn_end (lineOf (cut1 s nlb))
  obtain ⟨r, hr⟩ := List.isPrefixOf_iff_prefix.1 h.2
  have hm : (10 : UInt8) ∈ s.data.toList := by rw [← hr, hl]; simp
  obtain ⟨a, c, hs, ha⟩ := List.eq_append_cons_of_mem hm
  obtain ⟨e1, e2⟩ := cut1_mid s a 10 c hs ha
  have e1' : cut1 s nlb = ⟨a.toArray⟩ := e1
  have e2' : cut2 s nlb = ⟨c.toArray⟩ := e2
  rw [e1', e2', mk_toList, mk_toList]
  exact ⟨hs, ha⟩
theorem good_less (s : ByteArray) (h : lineGood s = true) : (cut2 s nlb).size < s.size := by
  obtain ⟨h1, _⟩ := good_split s h
  have := congrArg List.length h1
  rw [size_len, List.length_append, List.length_cons, size_len, size_len] at this
  omega
theorem readGo_fuel : ∀ (f g : Nat) (s : ByteArray) (acc : List S29) (n : Nat), s.size < f → s.size < g → readGo f s acc n = readGo g s acc n
  | 0, g, s, acc, n, h, _ => by omega
  | f + 1, 0, s, acc, n, _, h => by omega
  | f + 1, g + 1, s, acc, n, h1, h2 => by
    unfold readGo
    split
    · rfl
    · split
      · rename_i hg
        have := good_less s hg
        exact readGo_fuel f g _ _ _ (by omega) (by omega)
      · rfl
end Go.Proofs.YtbdoafigggcdpaaGreatDoor.PScr
