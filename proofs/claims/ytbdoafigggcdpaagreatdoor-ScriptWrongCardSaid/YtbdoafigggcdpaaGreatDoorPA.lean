/- What script.Read computes, and what two texts, one behind the other, are. No condition of ours. -/
import Derived.Test.YtbdoafigggcdpaaGreatDoorMA
namespace Go.Proofs.YtbdoafigggcdpaaGreatDoor.PScr
open Go.RowKit Go.Proofs.YtbdoafigggcdpaaGreatDoorW.PrintWords Go.Proofs.YtbdoafigggcdpaaGreatDoorW.PrintLast Go.Proofs.YtbdoafigggcdpaaGreatDoorW.PrintMore
set_option linter.unusedVariables false
set_option linter.unusedSimpArgs false

/-! ### cut at one byte -/
theorem index_one_none : ∀ (l : List UInt8) (b : UInt8), b ∉ l → Lib.index l [b] = -1
  | [], b, _ => rfl
  | c :: l, b, h => by
    simp only [List.mem_cons, not_or] at h
    have e : [b].isPrefixOf (c :: l) = false := by simp [List.isPrefixOf, h.1]
    unfold Lib.index
    rw [e, index_one_none l b h.2]
    rfl
theorem index_one_mid : ∀ (a : List UInt8) (b : UInt8) (c : List UInt8), b ∉ a → Lib.index (a ++ b :: c) [b] = a.length
  | [], b, c, _ => by
    show Lib.index (b :: c) [b] = _
    unfold Lib.index
    simp [List.isPrefixOf]
  | d :: a, b, c, h => by
    simp only [List.mem_cons, not_or] at h
    have e : [b].isPrefixOf (d :: (a ++ b :: c)) = false := by simp [List.isPrefixOf, h.1]
    show Lib.index (d :: (a ++ b :: c)) [b] = _
    unfold Lib.index
    rw [e, index_one_mid a b c h.2]
    have e2 : ((a.length : Int) == -1) = false := by rw [beq_eq_false_iff_ne]; omega
    rw [e2]
    simp
theorem cut_none (l : List UInt8) (b : UInt8) (h : b ∉ l) : Lib.cut l [b] = (l, [], false) := by
  unfold Lib.cut
  rw [index_one_none l b h]
  rfl
theorem cut_mid (a : List UInt8) (b : UInt8) (c : List UInt8) (h : b ∉ a) : Lib.cut (a ++ b :: c) [b] = (a, c, true) := by
  unfold Lib.cut
  rw [index_one_mid a b c h, if_pos (by omega)]
  simp
def nlb : ByteArray := ⟨#[10]⟩
theorem cut1_none (s : ByteArray) (b : UInt8) (h : b ∉ s.data.toList) : cut1 s ⟨#[b]⟩ = s ∧ cut2 s ⟨#[b]⟩ = ⟨#[]⟩ := by
  unfold cut1 cut2
  have e : (⟨#[b]⟩ : ByteArray).data.toList = [b] := rfl
  rw [e, cut_none _ _ h]
  exact ⟨ba_ext (by simp), rfl⟩
theorem cut1_mid (s : ByteArray) (a : List UInt8) (b : UInt8) (c : List UInt8) (hs : s.data.toList = a ++ b :: c) (h : b ∉ a) : cut1 s ⟨#[b]⟩ = ⟨a.toArray⟩ ∧ cut2 s ⟨#[b]⟩ = ⟨c.toArray⟩ := by
  unfold cut1 cut2
  have e : (⟨#[b]⟩ : ByteArray).data.toList = [b] := rfl
  rw [e, hs, cut_mid _ _ _ h]
  exact ⟨rfl, rfl⟩

/-! ### what Read computes -/
/-- the line that a text may be -/
def lineOf (s : ByteArray) : S29 := ⟨wordOf s, (partsOf s).xs, (partsOf s).ts, (partsOf s).signs, textOf s⟩
/-- has a line a text? -/
def goodL (x : S29) : Bool := checkE (findE x.f0) (findB x.f0) x.f1 x.f2 x.f3 x.f4
/-- a line that has one, as a text -/
def textLn (x : S29) : ByteArray := lineText x.f0 x.f1 x.f2 x.f3 x.f4
/-- is a text's first line the text of a line? -/
def lineGood (s : ByteArray) : Bool := goodL (lineOf (cut1 s nlb)) && (textLn (lineOf (cut1 s nlb))).data.toList.isPrefixOf s.data.toList
/-- lines, number of the line that is wrong, is it right? -/
def readGo : Nat → ByteArray → List S29 → Nat → List S29 × Nat × Bool
  | 0, s, acc, n => (acc, 0, true)
  | f + 1, s, acc, n => if s.size = 0 then (acc, 0, true) else if lineGood s then readGo f (cut2 s nlb) (acc ++ [lineOf (cut1 s nlb)]) (n + 1) else ([], n, false)
def readAll (s : ByteArray) : List S29 × Nat × Bool := readGo (s.size + 1) s [] 1

theorem textLn_end (x : S29) : ∃ l, (textLn x).data.toList = l ++ [10] := ⟨(joined _).data.toList, by unfold textLn lineText; rw [ByteArray.data_append]; simp; rfl⟩
theorem mk_toList (l : List UInt8) : (⟨l.toArray⟩ : ByteArray).data.toList = l := by simp
theorem size_len (s : ByteArray) : s.data.toList.length = s.size := by rw [Array.length_toList]; rfl
theorem good_split (s : ByteArray) (h : lineGood s = true) : s.data.toList = (cut1 s nlb).data.toList ++ 10 :: (cut2 s nlb).data.toList ∧ 10 ∉ (cut1 s nlb).data.toList := by
  unfold lineGood at h
  rw [Bool.and_eq_true] at h
  obtain ⟨l, hl⟩ := textLn_end (lineOf (cut1 s nlb))
  obtain ⟨r, hr⟩ := List.isPrefixOf_iff_prefix.1 h.2
  have hm : (10 : UInt8) ∈ s.data.toList := by rw [← hr, hl]; simp
  obtain ⟨a, c, hs, ha⟩ := List.eq_append_cons_of_mem hm
  obtain ⟨e1, e2⟩ := cut1_mid s a 10 c hs ha
  have e1' : cut1 s nlb = ⟨a.toArray⟩ := e1
  have e2' : cut2 s nlb = ⟨c.toArray⟩ := e2
  rw [e1', e2', mk_toList, mk_toList]
  exact ⟨hs, ha⟩
theorem good_append (s b : ByteArray) (h : lineGood s = true) : lineGood (s ++ b) = true ∧ cut1 (s ++ b) nlb = cut1 s nlb ∧ cut2 (s ++ b) nlb = cut2 s nlb ++ b := by
  obtain ⟨h1, h2⟩ := good_split s h
  have hs : (s ++ b).data.toList = (cut1 s nlb).data.toList ++ 10 :: ((cut2 s nlb).data.toList ++ b.data.toList) := by rw [ByteArray.data_append, Array.toList_append, h1]; simp
  obtain ⟨e1, e2⟩ := cut1_mid (s ++ b) _ 10 _ hs h2
  have e1' : cut1 (s ++ b) nlb = cut1 s nlb := e1.trans (ba_ext (by simp))
  have e2' : cut2 (s ++ b) nlb = cut2 s nlb ++ b := e2.trans (ba_ext (by rw [ByteArray.data_append, Array.toList_append]))
  refine ⟨?_, e1', e2'⟩
  unfold lineGood at h ⊢
  rw [Bool.and_eq_true] at h ⊢
  rw [e1']
  refine ⟨h.1, List.isPrefixOf_iff_prefix.2 ?_⟩
  rw [ByteArray.data_append, Array.toList_append]
  exact (List.isPrefixOf_iff_prefix.1 h.2).trans (List.prefix_append _ _)
theorem good_less (s : ByteArray) (h : lineGood s = true) : (cut2 s nlb).size < s.size := by
  obtain ⟨h1, _⟩ := good_split s h
  have := congrArg List.length h1
  rw [size_len, List.length_append, List.length_cons, size_len, size_len] at this
  omega
theorem good_pos (s : ByteArray) (h : lineGood s = true) : s.size ≠ 0 := by have := good_less s h; omega

theorem readGo_fuel : ∀ (f g : Nat) (s : ByteArray) (acc : List S29) (n : Nat), s.size < f → s.size < g → readGo f s acc n = readGo g s acc n
  | 0, g, s, acc, n, h, _ => by omega
  | f + 1, 0, s, acc, n, _, h => by omega
  | f + 1, g + 1, s, acc, n, h1, h2 => by
    unfold readGo
    split
    · rfl
    · split
      · rename_i hg
        have := good_less s hg
        exact readGo_fuel f g _ _ _ (by omega) (by omega)
      · rfl
theorem readGo_acc : ∀ (f : Nat) (s : ByteArray) (acc0 acc : List S29) (m n : Nat), readGo f s (acc0 ++ acc) (m + n) = if (readGo f s acc n).2.2 then (acc0 ++ (readGo f s acc n).1, 0, true) else ([], m + (readGo f s acc n).2.1, false)
  | 0, s, acc0, acc, m, n => by simp [readGo]
  | f + 1, s, acc0, acc, m, n => by
    unfold readGo
    split
    · simp
    · split
      · rw [List.append_assoc, Nat.add_assoc]
        exact readGo_acc f _ acc0 _ m (n + 1)
      · simp
theorem readGo_zero : ∀ (f : Nat) (s : ByteArray) (acc : List S29) (n : Nat), (readGo f s acc n).2.2 = true → (readGo f s acc n).2.1 = 0
  | 0, s, acc, n => by simp [readGo]
  | f + 1, s, acc, n => by
    unfold readGo
    split
    · simp
    · split
      · exact readGo_zero f _ _ _
      · simp
theorem readGo_join : ∀ (f : Nat) (a : ByteArray) (acc : List S29) (n : Nat), a.size < f → (readGo f a acc n).2.2 = true → ∃ k, (readGo f a acc n).1.length = acc.length + k ∧ ∀ (b : ByteArray) (g : Nat), (a ++ b).size < g → readGo g (a ++ b) acc n = readGo g b (readGo f a acc n).1 (n + k)
  | 0, a, acc, n, h, _ => by omega
  | f + 1, a, acc, n, h, hk => by
    by_cases h0 : a.size = 0
    · have e : readGo (f + 1) a acc n = (acc, 0, true) := by unfold readGo; rw [if_pos h0]
      rw [e]
      refine ⟨0, rfl, fun b g hg => ?_⟩
      have ea : a = ⟨#[]⟩ := ba_ext (by
        have := size_len a
        rw [h0] at this
        rw [List.length_eq_zero_iff.1 this])
      have eb : a ++ b = b := by rw [ea]; exact ba_ext (by rw [ByteArray.data_append]; simp)
      rw [eb]
      rfl
    · by_cases hg0 : lineGood a = true
      · have e : readGo (f + 1) a acc n = readGo f (cut2 a nlb) (acc ++ [lineOf (cut1 a nlb)]) (n + 1) := by rw [readGo, if_neg h0, if_pos hg0]
        rw [e] at hk ⊢
        have hl := good_less a hg0
        obtain ⟨k, hk1, hk2⟩ := readGo_join f (cut2 a nlb) _ (n + 1) (by omega) hk
        refine ⟨k + 1, by rw [hk1]; simp; omega, fun b g hg => ?_⟩
        obtain ⟨g1, g2, g3⟩ := good_append a b hg0
        have hsz : (a ++ b).size = a.size + b.size := by simp
        obtain ⟨g', rfl⟩ : ∃ g', g = g' + 1 := ⟨g - 1, by omega⟩
        have e3 : readGo (g' + 1) (a ++ b) acc n = readGo g' (cut2 a nlb ++ b) (acc ++ [lineOf (cut1 a nlb)]) (n + 1) := by rw [readGo, if_neg (by omega), if_pos g1, g2, g3]
        have hsz2 : (cut2 a nlb ++ b).size = (cut2 a nlb).size + b.size := by simp
        rw [e3, hk2 b g' (by omega), show n + (k + 1) = n + 1 + k by omega]
        exact readGo_fuel _ _ _ _ _ (by omega) (by omega)
      · have e : readGo (f + 1) a acc n = ([], n, false) := by rw [readGo, if_neg h0, if_neg hg0]
        rw [e] at hk
        cases hk
/-- TWO TEXTS, ONE BEHIND THE OTHER, ARE THE LINES OF BOTH -/
theorem read_join (a b : ByteArray) (h : (readAll a).2.2 = true) : readAll (a ++ b) = if (readAll b).2.2 then ((readAll a).1 ++ (readAll b).1, 0, true) else ([], (readAll a).1.length + (readAll b).2.1, false) := by
  unfold readAll at h ⊢
  obtain ⟨k, hk, hj⟩ := readGo_join _ a [] 1 (Nat.lt_succ_self _) h
  have hsz : (a ++ b).size = a.size + b.size := by simp
  rw [hj b ((a ++ b).size + 1) (Nat.lt_succ_self _), readGo_fuel _ (b.size + 1) b _ _ (by omega) (by omega)]
  have hk' : (readGo (a.size + 1) a [] 1).1.length = k := by simpa using hk
  have := readGo_acc (b.size + 1) b (readGo (a.size + 1) a [] 1).1 [] k 1
  rw [List.append_nil] at this
  rw [Nat.add_comm 1 k, this, hk']
end Go.Proofs.YtbdoafigggcdpaaGreatDoor.PScr
