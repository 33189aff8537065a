/- A tuple's text read again is the tuple; a number's text is the number; words joined by spaces are their fields. No condition of ours. -/
import Derived.Test.YtbdoafigggcdpaaGreatDoorVPA
import Derived.Lib.TrimAscii
import Derived.Lib.AtoiTie
import Derived.Lib.FieldsU
namespace Go.Proofs.YtbdoafigggcdpaaGreatDoor.PScr
open Go.RowKit Go.Proofs.YtbdoafigggcdpaaGreatDoorW.PrintWords Go.Proofs.YtbdoafigggcdpaaGreatDoorW.PrintLast Go.Proofs.YtbdoafigggcdpaaGreatDoorW.PrintMore
set_option linter.unusedVariables false
set_option linter.unusedSimpArgs false

/-- the bytes of names -/
def charOk (b : UInt8) : Prop := (97 ≤ b.toNat ∧ b.toNat ≤ 122) ∨ (48 ≤ b.toNat ∧ b.toNat ≤ 57) ∨ b.toNat = 95 ∨ b.toNat = 45 ∨ b.toNat = 46
theorem mem_get {s : ByteArray} {b : UInt8} (h : b ∈ s.data.toList) : ∃ i, i < s.size ∧ s.get! i = b := by
  obtain ⟨i, hi, he⟩ := List.mem_iff_getElem.1 h
  have hi' : i < s.size := by rw [← size_len]; exact hi
  refine ⟨i, hi', ?_⟩
  rw [get_get s i hi', ← he]
  rfl
theorem name_chars {s : ByteArray} (h : nameOk s = true) : (∀ b ∈ s.data.toList, charOk b) ∧ (∃ b l, s.data.toList = b :: l ∧ 97 ≤ b.toNat ∧ b.toNat ≤ 122) ∧ s.size ≤ 12 := by
  unfold nameOk madeOf at h
  simp only [Bool.and_eq_true, decide_eq_true_eq] at h
  obtain ⟨⟨h1, h2⟩, h3⟩ := h
  have hall : ∀ i, i < s.size → nameAt i (s.get! i).toNat = true := fun i hi => by
    unfold allAt at h1
    exact List.all_eq_true.1 h1 i (List.mem_range.2 hi)
  refine ⟨fun b hb => ?_, ?_, h3⟩
  · obtain ⟨i, hi, rfl⟩ := mem_get hb
    have := hall i hi
    unfold nameAt isLetter isDigit at this
    unfold charOk
    simp only [Bool.or_eq_true, Bool.and_eq_true, decide_eq_true_eq] at this
    omega
  · have hl : 0 < s.data.toList.length := by rw [size_len]; omega
    obtain ⟨b, l, hbl⟩ : ∃ b l, s.data.toList = b :: l := by
      cases hs : s.data.toList with
      | nil => rw [hs] at hl; simp at hl
      | cons b l => exact ⟨b, l, rfl⟩
    refine ⟨b, l, hbl, ?_⟩
    have h0 := hall 0 (by omega)
    have e : s.get! 0 = b := by
      rw [get_get s 0 (by omega)]
      have : s.data.toList[0]'hl = b := by simp [hbl]
      rw [← this]; rfl
    rw [e] at h0
    unfold nameAt isLetter isDigit at h0
    simp only [Bool.or_eq_true, Bool.and_eq_true, decide_eq_true_eq] at h0
    omega
theorem id_chars {s : ByteArray} (h : idOk s = true) : (∀ b ∈ s.data.toList, charOk b) ∧ 0 < s.size ∧ s.size ≤ 16 := by
  unfold idOk madeOf at h
  simp only [Bool.and_eq_true, decide_eq_true_eq] at h
  obtain ⟨⟨h1, h2⟩, h3⟩ := h
  refine ⟨fun b hb => ?_, by omega, h3⟩
  obtain ⟨i, hi, rfl⟩ := mem_get hb
  unfold allAt at h1
  have := List.all_eq_true.1 h1 i (List.mem_range.2 hi)
  unfold idAt isLetter isDigit at this
  unfold charOk
  simp only [Bool.or_eq_true, Bool.and_eq_true, decide_eq_true_eq] at this
  omega
theorem tl_nil {r : ByteArray} (h : r.toList = []) : r = ⟨#[]⟩ := ba_ext (by rw [← ByteArray.toList_eq]; exact h)
theorem rel_chars {r : ByteArray} (h : (r.toList == [] || nameOk r) = true) : ∀ b ∈ r.data.toList, charOk b := by
  rw [Bool.or_eq_true] at h
  rcases h with h | h
  · rw [tl_nil (beq_iff_eq.1 h)]; intro b hb; simp at hb
  · exact (name_chars h).1
structure TupleIs (t : S51) : Prop where
  c0 : ∀ b ∈ t.f0.data.toList, charOk b
  c1 : ∀ b ∈ t.f1.data.toList, charOk b
  c2 : ∀ b ∈ t.f2.data.toList, charOk b
  c3 : ∀ b ∈ t.f3.f0.data.toList, charOk b
  c4 : ∀ b ∈ t.f3.f1.data.toList, charOk b
  c5 : ∀ b ∈ t.f3.f2.data.toList, charOk b
  head : ∃ b l, t.f0.data.toList = b :: l ∧ 97 ≤ b.toNat ∧ b.toNat ≤ 122
theorem tuple_is {t : S51} (h : t.bad = false) : TupleIs t := by
  unfold S51.bad tupleOk userOk at h
  rw [Bool.not_eq_false'] at h
  simp only [Bool.and_eq_true] at h
  obtain ⟨h0, h1, h2, h3, h4, h5⟩ := h
  exact ⟨(name_chars h0).1, (id_chars h1).1, (name_chars h2).1, (name_chars h3).1, (id_chars h4).1, rel_chars h5, (name_chars h0).2.1⟩
theorem not_mem {l : List UInt8} {c : UInt8} (h : ∀ b ∈ l, charOk b) (hc : ¬ charOk c) : c ∉ l := fun hm => hc (h c hm)

/-- a tuple's text -/
def tText (t : S51) : ByteArray := tupleText t.f0 t.f1 t.f2 t.f3.f0 t.f3.f1 t.f3.f2
theorem userText_list (k i r : ByteArray) : (userText k i r).data.toList = if r.toList = [] then k.data.toList ++ 58 :: i.data.toList else k.data.toList ++ 58 :: (i.data.toList ++ 35 :: r.data.toList) := by
  unfold userText
  split <;> simp [ByteArray.data_append]
theorem tText_list (t : S51) : (tText t).data.toList = t.f0.data.toList ++ 58 :: (t.f1.data.toList ++ 35 :: (t.f2.data.toList ++ 64 :: (userText t.f3.f0 t.f3.f1 t.f3.f2).data.toList)) := by
  unfold tText tupleText
  simp [ByteArray.data_append]
theorem mk_eq (s : ByteArray) : (⟨s.data.toList.toArray⟩ : ByteArray) = s := ba_ext (by simp)
theorem parse_ref (x : ByteArray) (a b c : ByteArray) (ha : (58 : UInt8) ∉ a.data.toList) (hb : (35 : UInt8) ∉ b.data.toList) (hx : x.data.toList = a.data.toList ++ 58 :: (b.data.toList ++ 35 :: c.data.toList)) : parseK x = a ∧ parseI x = b ∧ parseR x = c := by
  obtain ⟨e1, e2⟩ := cut1_mid x _ 58 _ hx ha
  unfold parseK parseI parseR
  rw [e1, e2]
  obtain ⟨e3, e4⟩ := cut1_mid (⟨(b.data.toList ++ 35 :: c.data.toList).toArray⟩ : ByteArray) _ 35 _ (mk_toList _) hb
  rw [e3, e4]
  exact ⟨mk_eq _, mk_eq _, mk_eq _⟩
theorem parse_ref0 (x : ByteArray) (a b : ByteArray) (ha : (58 : UInt8) ∉ a.data.toList) (hb : (35 : UInt8) ∉ b.data.toList) (hx : x.data.toList = a.data.toList ++ 58 :: b.data.toList) : parseK x = a ∧ parseI x = b ∧ parseR x = ⟨#[]⟩ := by
  obtain ⟨e1, e2⟩ := cut1_mid x _ 58 _ hx ha
  unfold parseK parseI parseR
  rw [e1, e2, mk_eq, mk_eq]
  obtain ⟨e3, e4⟩ := cut1_none b 35 hb
  exact ⟨rfl, e3, e4⟩
theorem nc58 : ¬ charOk 58 := by unfold charOk; decide
theorem nc35 : ¬ charOk 35 := by unfold charOk; decide
theorem nc64 : ¬ charOk 64 := by unfold charOk; decide
theorem readOf_text (t : S51) (h : t.bad = false) : readOf (tText t) = t := by
  have T := tuple_is h
  have hl := tText_list t
  have e : t.f0.data.toList ++ 58 :: (t.f1.data.toList ++ 35 :: (t.f2.data.toList ++ 64 :: (userText t.f3.f0 t.f3.f1 t.f3.f2).data.toList)) = (t.f0.data.toList ++ 58 :: (t.f1.data.toList ++ 35 :: t.f2.data.toList)) ++ 64 :: (userText t.f3.f0 t.f3.f1 t.f3.f2).data.toList := by simp
  rw [e] at hl
  have hn : (64 : UInt8) ∉ t.f0.data.toList ++ 58 :: (t.f1.data.toList ++ 35 :: t.f2.data.toList) := by
    simp only [List.mem_append, List.mem_cons, not_or]
    exact ⟨not_mem T.c0 nc64, by decide, not_mem T.c1 nc64, by decide, not_mem T.c2 nc64⟩
  obtain ⟨e1, e2⟩ := cut1_mid (tText t) _ 64 _ hl hn
  obtain ⟨p1, p2, p3⟩ := parse_ref (cut1 (tText t) ⟨#[64]⟩) t.f0 t.f1 t.f2 (not_mem T.c0 nc58) (not_mem T.c1 nc35) (by rw [e1])
  have hu : (cut2 (tText t) ⟨#[64]⟩).data.toList = (userText t.f3.f0 t.f3.f1 t.f3.f2).data.toList := by rw [e2]
  have hq : parseK (cut2 (tText t) ⟨#[64]⟩) = t.f3.f0 ∧ parseI (cut2 (tText t) ⟨#[64]⟩) = t.f3.f1 ∧ parseR (cut2 (tText t) ⟨#[64]⟩) = t.f3.f2 := by
    rw [userText_list] at hu
    by_cases hr : t.f3.f2.toList = []
    · rw [if_pos hr] at hu
      have := parse_ref0 _ t.f3.f0 t.f3.f1 (not_mem T.c3 nc58) (not_mem T.c4 nc35) hu
      rw [tl_nil hr]
      exact this
    · rw [if_neg hr] at hu
      exact parse_ref _ t.f3.f0 t.f3.f1 t.f3.f2 (not_mem T.c3 nc58) (not_mem T.c4 nc35) hu
  obtain ⟨q1, q2, q3⟩ := hq
  have hb : tupleOk t.f0 t.f1 t.f2 t.f3.f0 t.f3.f1 t.f3.f2 = true := by unfold S51.bad at h; rwa [Bool.not_eq_false'] at h
  have ht : tupleText t.f0 t.f1 t.f2 t.f3.f0 t.f3.f1 t.f3.f2 = tText t := rfl
  simp only [readOf]
  rw [p1, p2, p3, q1, q2, q3, hb, ht, Bool.true_and, if_pos (beq_self_eq_true _)]

/-! ### numbers -/
theorem dec_snoc : ∀ (l : List UInt8) (acc n d : Nat), Lib.decFrom acc l = some n → d < 10 → Lib.decFrom acc (l ++ [UInt8.ofNat (48 + d)]) = some (n * 10 + d)
  | [], acc, n, d, h, hd => by
    simp only [Lib.decFrom, Option.some.injEq] at h
    subst h
    have e : Lib.digitVal (UInt8.ofNat (48 + d)) = some d := by
      have hall : ∀ d : Fin 10, Lib.digitVal (UInt8.ofNat (48 + d.val)) = some d.val := by decide
      exact hall ⟨d, hd⟩
    simp only [List.nil_append, Lib.decFrom, e]
  | b :: l, acc, n, d, h, hd => by
    simp only [Lib.decFrom, List.cons_append] at h ⊢
    cases hb : Lib.digitVal b with
    | none => rw [hb] at h; cases h
    | some v => rw [hb] at h; exact dec_snoc l _ n d h hd
theorem dec_digits (u : Nat) : Lib.decFrom 0 (Lib.decDigits u) = some u := by
  induction u using Nat.strongRecOn with
  | _ u ih =>
    rw [Lib.decDigits]
    split
    · rename_i h
      have := dec_snoc [] 0 0 u rfl h
      simpa using this
    · rename_i h
      have := dec_snoc _ 0 _ (u % 10) (ih (u / 10) (by omega)) (by omega)
      rw [this]
      congr 1
      omega
theorem decDigits_chars (u : Nat) : (∀ b ∈ Lib.decDigits u, 48 ≤ b.toNat ∧ b.toNat ≤ 57) ∧ Lib.decDigits u ≠ [] := by
  have hall : ∀ d : Fin 10, 48 ≤ (UInt8.ofNat (48 + d.val)).toNat ∧ (UInt8.ofNat (48 + d.val)).toNat ≤ 57 := by decide
  induction u using Nat.strongRecOn with
  | _ u ih =>
    rw [Lib.decDigits]
    split
    · rename_i h
      refine ⟨fun b hb => ?_, by simp⟩
      rw [List.mem_singleton.1 hb]
      exact hall ⟨u, h⟩
    · rename_i h
      refine ⟨fun b hb => ?_, by simp⟩
      rcases List.mem_append.1 hb with hb | hb
      · exact (ih (u / 10) (by omega)).1 b hb
      · rw [List.mem_singleton.1 hb]
        exact hall ⟨u % 10, by omega⟩
theorem itoaB_list (n : Int) (h0 : 0 ≤ n) : (itoaB n).data.toList = Lib.decDigits n.toNat := by
  unfold itoaB Lib.itoa
  rw [if_neg (by omega), mk_toList]
theorem numOf_itoa (n : Int) (h0 : 0 ≤ n) (h1 : n ≤ 1000000) : numOf (itoaB n) = some n := by
  unfold numOf
  rw [itoaB_list n h0]
  have hlen : (Lib.decDigits n.toNat).length ≤ 7 := digits_len 6 n.toNat (by omega)
  obtain ⟨hc, hne⟩ := decDigits_chars n.toNat
  rw [Lib.atoiAll_short _ (by omega)]
  have hd := dec_digits n.toNat
  obtain ⟨b, r, hbr⟩ : ∃ b r, Lib.decDigits n.toNat = b :: r := by
    cases hs : Lib.decDigits n.toNat with
    | nil => exact absurd hs hne
    | cons b r => exact ⟨b, r, rfl⟩
  have hb := hc b (by rw [hbr]; exact List.mem_cons_self ..)
  rw [hbr] at hd ⊢
  have n1 : (b == 45) = false := by rw [beq_eq_false_iff_ne]; intro e; rw [e] at hb; exact absurd hb (by decide)
  have n2 : (b == 43) = false := by rw [beq_eq_false_iff_ne]; intro e; rw [e] at hb; exact absurd hb (by decide)
  have e : Lib.atoi (b :: r) = some n := by
    simp only [Lib.atoi, n1, n2, Lib.decNat, List.isEmpty_cons, hd]
    simp
    omega
  rw [e]
  rfl
/-- a word that begins with a letter, a sign ahead of it or not, is no number -/
theorem numOf_letter (p : ByteArray) (b : UInt8) (l : List UInt8) (h : p.data.toList = b :: l ∨ p.data.toList = 43 :: b :: l ∨ p.data.toList = 45 :: b :: l) (h0 : 97 ≤ b.toNat) : numOf p = none := by
  have hm : ∀ v, Lib.parseMag (b :: l) ≠ .ok v := by
    intro v h
    unfold Lib.parseMag at h
    rw [if_neg (by simp)] at h
    unfold Lib.parseUint10 at h
    rw [if_neg (by omega)] at h
    cases h
  have h1 : ∀ x : Lib.NumEnd Int, (∀ v, x ≠ .ok v) → (match x with | .ok v => some v | _ => none) = none := by
    intro x hx
    cases x
    · exact absurd rfl (hx _)
    · rfl
    · rfl
  unfold numOf
  refine h1 _ ?_
  have h2 : ∀ v, Lib.signless (Lib.parseMag (b :: l)) ≠ .ok v := by
    intro v h
    cases hq : Lib.parseMag (b :: l)
    · exact hm _ hq
    · rw [hq] at h; cases h
    · rw [hq] at h; cases h
  have h3 : ∀ v, Lib.signed (Lib.parseMag (b :: l)) ≠ .ok v := by
    intro v h
    cases hq : Lib.parseMag (b :: l)
    · exact hm _ hq
    · rw [hq] at h; cases h
    · rw [hq] at h; cases h
  rcases h with h | h | h
  · rw [h, Lib.atoiAll_plain b l (by omega) (by omega)]; exact h2
  · rw [h, Lib.atoiAll_plus]; exact h2
  · rw [h, Lib.atoiAll_minus]; exact h3

/-! ### fields -/
/-- a byte of a word: neither space nor beyond ASCII -/
def wordB (b : UInt8) : Prop := 33 ≤ b.toNat ∧ b.toNat < 127
theorem space_not {b : UInt8} (h : wordB b) : Lib.isSpaceR b.toNat = false := by
  unfold wordB at h
  unfold Lib.isSpaceR
  simp only [Bool.or_eq_false_iff, Bool.and_eq_false_iff, decide_eq_false_iff_not, beq_eq_false_iff_ne]
  omega
theorem fields_word : ∀ (x : List UInt8) (f : Nat) (cur l : List UInt8), (∀ b ∈ x, wordB b) → Lib.fieldsGoD (f + x.length) cur (x ++ l) = Lib.fieldsGoD f (cur ++ x) l
  | [], f, cur, l, _ => by simp
  | b :: x, f, cur, l, h => by
    have hb := h b (List.mem_cons_self ..)
    have hlt : b.toNat < 128 := by unfold wordB at hb; omega
    have e : f + (b :: x).length = (f + x.length) + 1 := by simp; omega
    rw [e]
    show Lib.fieldsGoD (f + x.length + 1) cur (b :: (x ++ l)) = _
    rw [Lib.fieldsGoD, if_neg (by simp), Lib.decodeL_ascii b _ hlt, space_not hb]
    simp only [Bool.false_eq_true, if_false, List.take_succ_cons, List.take_zero, List.drop_succ_cons, List.drop_zero]
    rw [fields_word x f (cur ++ [b]) l (fun c hc => h c (List.mem_cons_of_mem _ hc))]
    simp
theorem fields_join : ∀ (vs : List (List UInt8)) (f : Nat), (∀ x ∈ vs, x ≠ [] ∧ ∀ b ∈ x, wordB b) → (Lib.join vs [32]).length ≤ f → Lib.fieldsGoD (f + 1) [] (Lib.join vs [32]) = vs
  | [], f, _, _ => by
    unfold Lib.join
    simp [Lib.fieldsGoD_nil]
  | [x], f, h, hf => by
    have hx := h x (List.mem_cons_self ..)
    have e : Lib.join [x] [32] = x := by unfold Lib.join; simp [List.intercalate]
    rw [e] at hf ⊢
    obtain ⟨g, rfl⟩ : ∃ g, f = g + x.length := ⟨f - x.length, by omega⟩
    have := fields_word x (g + 1) [] [] hx.2
    rw [List.append_nil, List.nil_append, show g + 1 + x.length = g + x.length + 1 by omega] at this
    rw [this, Lib.fieldsGoD_nil, if_neg hx.1]
  | x :: y :: vs, f, h, hf => by
    have hx := h x (List.mem_cons_self ..)
    have e : Lib.join (x :: y :: vs) [32] = x ++ 32 :: Lib.join (y :: vs) [32] := by unfold Lib.join; simp [List.intercalate]
    rw [e] at hf ⊢
    simp only [List.length_append, List.length_cons] at hf
    obtain ⟨g, rfl⟩ : ∃ g, f = g + x.length := ⟨f - x.length, by omega⟩
    have := fields_word x (g + 1) [] (32 :: Lib.join (y :: vs) [32]) hx.2
    rw [List.nil_append, show g + 1 + x.length = g + x.length + 1 by omega] at this
    rw [this]
    have hsp : Lib.isSpaceR (32 : UInt8).toNat = true := by decide
    rw [Lib.fieldsGoD, if_neg (by simp), Lib.decodeL_ascii 32 _ (by decide), hsp]
    simp only [if_true, List.drop_succ_cons, List.drop_zero]
    rw [if_neg hx.1]
    obtain ⟨g', rfl⟩ : ∃ g', g = g' + 1 := ⟨g - 1, by omega⟩
    rw [fields_join (y :: vs) g' (fun z hz => h z (List.mem_cons_of_mem _ hz)) (by omega)]
    rfl
end Go.Proofs.YtbdoafigggcdpaaGreatDoor.PScr
