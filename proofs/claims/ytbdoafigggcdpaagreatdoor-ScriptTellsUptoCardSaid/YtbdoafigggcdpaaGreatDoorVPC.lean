/- The text of a line that may be, read again, is the line; of lines, the lines. No condition of ours. -/
import Derived.Test.YtbdoafigggcdpaaGreatDoorVPB
namespace Go.Proofs.YtbdoafigggcdpaaGreatDoor.PScr
open Go.RowKit Go.Proofs.YtbdoafigggcdpaaGreatDoorW.PrintWords Go.Proofs.YtbdoafigggcdpaaGreatDoorW.PrintLast Go.Proofs.YtbdoafigggcdpaaGreatDoorW.PrintMore
set_option linter.unusedVariables false
set_option linter.unusedSimpArgs false

/-! ### words -/
theorem idxE_hit (word : ByteArray) : ∀ (k i : Nat), 0 ≤ idxE word k i → (entAt (idxE word k i).toNat).word.toList = word.toList
  | 0, i, h => by
    have : idxE word 0 i = -1 := rfl
    omega
  | k + 1, i, h => by
    rw [idxE_step] at h ⊢
    split
    · rename_i h1
      have : ((i : Int)).toNat = i := by omega
      rw [this]
      exact beq_iff_eq.1 h1
    · rename_i h1
      rw [if_neg h1] at h
      exact idxE_hit word k (i + 1) h
def letters (l : List UInt8) : Bool := l.all fun b => decide (97 ≤ b.toNat) && decide (b.toNat ≤ 122)
theorem ents_plain : ∀ i : Fin 14, letters (entAt i.val).word.toList = true ∧ (entAt i.val).text = false ∧ (entAt i.val).word.toList ≠ ([114, 117, 108, 101, 115] : List UInt8) := by
  have h : ∀ i : Fin 14, (letters (entAt i.val).word.data.toList && !(entAt i.val).text && ((entAt i.val).word.data.toList != ([114, 117, 108, 101, 115] : List UInt8))) = true := by decide
  intro i
  have := h i
  simp only [Bool.and_eq_true, Bool.not_eq_true', bne_iff_ne] at this
  rw [ByteArray.toList_eq]
  exact ⟨this.1.1, this.1.2, this.2⟩
theorem find_word (word : ByteArray) (h : findB word = true) : letters word.data.toList = true ∧ ((findE word).text = true ↔ word.toList = ([114, 117, 108, 101, 115] : List UInt8)) := by
  rw [← ByteArray.toList_eq]
  unfold findB at h
  unfold findE
  by_cases h1 : word.toList = ([115, 112, 111, 105, 108] : List UInt8)
  · rw [if_pos h1, h1]
    exact ⟨by decide, by simp⟩
  · by_cases h2 : word.toList = ([114, 117, 108, 101, 115] : List UInt8)
    · rw [if_neg h1, if_pos h2, h2]
      exact ⟨by decide, by simp⟩
    · rw [beq_eq_false_iff_ne.2 h1, beq_eq_false_iff_ne.2 h2] at h
      simp only [Bool.false_or, decide_eq_true_eq] at h
      rw [if_neg h1, if_neg h2, if_neg (by omega)]
      have hr := idxE_range word 14 0
      have hj : (idxE word 14 0).toNat < 14 := by omega
      obtain ⟨e1, e2, e3⟩ := ents_plain ⟨_, hj⟩
      have e4 := idxE_hit word 14 0 h
      simp only at e1 e2 e3
      rw [e4] at e1
      exact ⟨e1, by rw [e2]; simp [h2]⟩
theorem letters_mem {l : List UInt8} (h : letters l = true) : ∀ b ∈ l, 97 ≤ b.toNat ∧ b.toNat ≤ 122 := by
  intro b hb
  have := List.all_eq_true.1 h b hb
  simpa using this

/-! ### what a good line is -/
theorem drop_nil {p : UInt8 → Bool} : ∀ {l : List UInt8}, l.dropWhile p = [] → ∀ b ∈ l, p b = true
  | [], _, b, hb => by simp at hb
  | a :: l, h, b, hb => by
    rw [List.dropWhile_cons] at h
    split at h
    · rename_i ha
      rcases List.mem_cons.1 hb with rfl | hb
      · exact ha
      · exact drop_nil h b hb
    · cases h
theorem take_mem {p : UInt8 → Bool} : ∀ {l : List UInt8}, ∀ b ∈ l.takeWhile p, p b = true
  | [], b, hb => by simp at hb
  | a :: l, b, hb => by
    rw [List.takeWhile_cons] at hb
    split at hb
    · rename_i ha
      rcases List.mem_cons.1 hb with rfl | hb
      · exact ha
      · exact take_mem b hb
    · simp at hb
theorem trim_mem {l cs : List UInt8} (h : Lib.trimS l cs = []) : ∀ b ∈ l, b ∈ cs := by
  unfold Lib.trimS Lib.trimLeftS at h
  have h1 : ∀ b ∈ Lib.trimRightS l cs, b ∈ cs := by
    intro b hb
    have := drop_nil h b hb
    simpa using this
  intro b hb
  have h2 : l = Lib.trimRightS l cs ++ (l.reverse.takeWhile (cs.contains ·)).reverse := by
    have h3 : l.reverse = l.reverse.takeWhile (cs.contains ·) ++ l.reverse.dropWhile (cs.contains ·) := List.takeWhile_append_dropWhile.symm
    have h4 := congrArg List.reverse h3
    rw [List.reverse_reverse, List.reverse_append] at h4
    exact h4
  rw [h2] at hb
  rcases List.mem_append.1 hb with hb | hb
  · exact h1 b hb
  · have := take_mem b (List.mem_reverse.1 hb)
    simpa using this
structure GoodIs (x : S29) : Prop where
  is : findB x.f0 = true
  nums : ∀ n ∈ x.f1, 0 ≤ n ∧ n ≤ 1000000
  tups : ∀ t ∈ x.f2, t.bad = false
  signs : x.f3.toList = [] ∨ (x.f3.size = x.f2.length ∧ ∀ b ∈ x.f3.data.toList, b = 43 ∨ b = 45)
  text0 : (findE x.f0).text = false → x.f4 = ⟨#[]⟩
  text1 : (findE x.f0).text = true → x.f1 = [] ∧ x.f2 = [] ∧ x.f3 = ⟨#[]⟩ ∧ 2 ≤ x.f4.size ∧ ∀ b ∈ x.f4.data.toList, 32 ≤ b.toNat ∧ b.toNat ≤ 126
theorem find_rules (word : ByteArray) (h : findB word = true) (ht : (findE word).text = true) : findE word = ⟨word, 0, 0, 0, false, true, false, false⟩ := by
  have h2 := (find_word word h).2.1 ht
  unfold findE
  rw [if_neg (by rw [h2]; decide), if_pos h2]
theorem good_is {x : S29} (h : goodL x = true) : GoodIs x := by
  unfold goodL checkE at h
  simp only [Bool.and_eq_true, decide_eq_true_eq] at h
  obtain ⟨h0, h1, h2, h3, h4, h5, h6, h7, h8⟩ := h
  have hn : ∀ n ∈ x.f1, 0 ≤ n ∧ n ≤ 1000000 := by
    intro n hn
    rw [Bool.not_eq_true'] at h4
    have := List.any_eq_false.1 h4 n hn
    unfold numBad at this
    simp at this
    omega
  have ht : ∀ t ∈ x.f2, t.bad = false := by
    intro t ht
    rw [Bool.not_eq_true'] at h5
    have := List.any_eq_false.1 h5 t ht
    simpa using this
  refine ⟨h0, hn, ht, ?_, ?_, ?_⟩
  · unfold signsOk signs0 at h2
    by_cases hs : x.f3.toList = []
    · exact .inl hs
    · right
      rw [beq_eq_false_iff_ne.2 hs] at h2
      cases he : (findE x.f0).signs
      · rw [he] at h2; simp at h2
      · rw [he] at h2
        simp only [Bool.true_and, Bool.false_or, if_true, Bool.and_eq_true, decide_eq_true_eq] at h2
        refine ⟨h2.2, fun b hb => ?_⟩
        have := trim_mem (beq_iff_eq.1 h2.1) b hb
        simpa using this
  · intro he
    unfold textOkE at h3
    rw [he] at h3
    simp only [Bool.false_eq_true, if_false] at h3
    exact tl_nil (beq_iff_eq.1 h3)
  · intro he
    have hf := find_rules _ h0 he
    rw [hf] at h1 h2 h3 h6 h7
    simp only [numbersOk, signsOk, signs0, textOkE, Bool.false_eq_true, if_false, if_true, decide_eq_true_eq, Bool.false_and, Bool.or_false, Bool.and_eq_true] at h1 h2 h3 h6 h7
    refine ⟨List.length_eq_zero_iff.1 (by omega), List.length_eq_zero_iff.1 (by omega), tl_nil (beq_iff_eq.1 h2), h3.1, ?_⟩
    intro b hb
    have := List.all_eq_true.1 h3.2.2 b hb
    simpa using this

/-! ### a line's words -/
def itemsOf (x : S29) : List ByteArray := x.f1.map itoaB ++ wordsT x.f3 x.f2 x.f2.length
theorem wordsT_step (signs : ByteArray) (ts : List S51) (k : Nat) : wordsT signs ts (k + 1) = wordsT signs ts k ++ [tword signs k (rd_T51 ts (k : Int))] := by simp [wordsT, List.range_succ]
theorem rd_T51_at (ts : List S51) (k : Nat) (h : k < ts.length) : rd_T51 ts (k : Int) = ts[k] := by unfold rd_T51; simp [h]
theorem char_word {b : UInt8} (h : charOk b) : wordB b := by unfold charOk at h; unfold wordB; omega
theorem tText_word {t : S51} (h : t.bad = false) : (∀ b ∈ (tText t).data.toList, wordB b) ∧ ∃ b l, (tText t).data.toList = b :: l ∧ 97 ≤ b.toNat ∧ b.toNat ≤ 122 := by
  have T := tuple_is h
  have hu : ∀ b ∈ (userText t.f3.f0 t.f3.f1 t.f3.f2).data.toList, wordB b := by
    rw [userText_list]
    intro b hb
    split at hb
    · simp only [List.mem_append, List.mem_cons] at hb
      rcases hb with hb | rfl | hb
      · exact char_word (T.c3 b hb)
      · unfold wordB; decide
      · exact char_word (T.c4 b hb)
    · simp only [List.mem_append, List.mem_cons] at hb
      rcases hb with hb | rfl | hb | rfl | hb
      · exact char_word (T.c3 b hb)
      · unfold wordB; decide
      · exact char_word (T.c4 b hb)
      · unfold wordB; decide
      · exact char_word (T.c5 b hb)
  constructor
  · rw [tText_list]
    intro b hb
    simp only [List.mem_append, List.mem_cons] at hb
    rcases hb with hb | rfl | hb | rfl | hb | rfl | hb
    · exact char_word (T.c0 b hb)
    · unfold wordB; decide
    · exact char_word (T.c1 b hb)
    · unfold wordB; decide
    · exact char_word (T.c2 b hb)
    · unfold wordB; decide
    · exact hu b hb
  · obtain ⟨b, l, hbl, h1, h2⟩ := T.head
    rw [tText_list, hbl]
    exact ⟨b, _, rfl, h1, h2⟩
/-- a tuple's word begins with its sign, where there are signs -/
theorem tword_list (signs : ByteArray) (k : Nat) (t : S51) (hk : signs.toList = [] ∨ k < signs.size) : (tword signs k t).data.toList = if signs.toList = [] then (tText t).data.toList else signs.get! k :: (tText t).data.toList := by
  unfold tword
  split
  · rfl
  · rename_i hne
    have hk' : k < signs.size := hk.resolve_left hne
    rw [ByteArray.data_append, Array.toList_append]
    have e : (signs.extract k (k + 1)).data.toList = [signs.get! k] := by
      rw [Lib.extract_eq, mk_toList, Nat.add_sub_cancel_left]
      have hl : k < signs.data.toList.length := by rw [size_len]; exact hk'
      rw [List.drop_eq_getElem_cons hl, get_get signs k hk']
      rfl
    rw [e]
    rfl
theorem sign_word {b : UInt8} (h : b = 43 ∨ b = 45) : wordB b := by rcases h with rfl | rfl <;> (unfold wordB; decide)
theorem items_words {x : S29} (G : GoodIs x) : ∀ y ∈ (itemsOf x).map (·.data.toList), y ≠ [] ∧ ∀ b ∈ y, wordB b := by
  intro y hy
  obtain ⟨p, hp, rfl⟩ := List.mem_map.1 hy
  unfold itemsOf at hp
  rcases List.mem_append.1 hp with hp | hp
  · obtain ⟨n, hn, rfl⟩ := List.mem_map.1 hp
    rw [itoaB_list n (G.nums n hn).1]
    obtain ⟨h1, h2⟩ := decDigits_chars n.toNat
    exact ⟨h2, fun b hb => by have := h1 b hb; unfold wordB; omega⟩
  · unfold wordsT at hp
    obtain ⟨k, hk, rfl⟩ := List.mem_map.1 hp
    have hk' := List.mem_range.1 hk
    have hb := G.tups _ (List.getElem_mem hk')
    rw [rd_T51_at _ _ hk']
    obtain ⟨h1, b, l, h2, _⟩ := tText_word hb
    rcases G.signs with hs | ⟨hs, hs2⟩
    · rw [tword_list _ _ _ (.inl hs), if_pos hs]
      exact ⟨by rw [h2]; simp, h1⟩
    · rw [tword_list _ _ _ (.inr (by omega))]
      split
      · exact ⟨by rw [h2]; simp, h1⟩
      · refine ⟨by simp, fun c hc => ?_⟩
        rcases List.mem_cons.1 hc with rfl | hc
        · refine sign_word (hs2 _ ?_)
          rw [get_get _ _ (by omega)]
          exact Array.getElem_mem_toList _
        · exact h1 c hc

theorem join_cons (v : ByteArray) (vs : List ByteArray) : (joined (v :: vs)).data.toList = if vs = [] then v.data.toList else v.data.toList ++ 32 :: (joined vs).data.toList := by
  unfold joined
  rw [mk_toList]
  cases vs with
  | nil => unfold Lib.join; simp [List.intercalate]
  | cons y vs => rw [mk_toList]; unfold Lib.join; simp [List.intercalate]
theorem join_mem : ∀ (vs : List ByteArray) (b : UInt8), b ∈ (joined vs).data.toList → b = 32 ∨ ∃ v ∈ vs, b ∈ v.data.toList
  | [], b, h => by unfold joined Lib.join at h; simp at h
  | v :: vs, b, h => by
    rw [join_cons] at h
    split at h
    · exact .inr ⟨v, List.mem_cons_self .., h⟩
    · simp only [List.mem_append, List.mem_cons] at h
      rcases h with h | rfl | h
      · exact .inr ⟨v, List.mem_cons_self .., h⟩
      · exact .inl rfl
      · rcases join_mem vs b h with h | ⟨u, hu, h⟩
        · exact .inl h
        · exact .inr ⟨u, List.mem_cons_of_mem _ hu, h⟩
theorem fieldsOf_join (vs : List ByteArray) (h : ∀ y ∈ vs.map (·.data.toList), y ≠ [] ∧ ∀ b ∈ y, wordB b) : fieldsOf (joined vs) = vs := by
  unfold fieldsOf Lib.fieldsD
  have e : (joined vs).data.toList = Lib.join (vs.map (·.data.toList)) [32] := by unfold joined; rw [mk_toList]
  rw [e, fields_join _ _ h (Nat.le_refl _), List.map_map]
  conv => rhs; rw [← List.map_id vs]
  exact List.map_congr_left fun v _ => mk_eq v

/-! ### the fold -/
theorem fold_nums : ∀ (xs : List Int) (st : PS), (∀ n ∈ xs, 0 ≤ n ∧ n ≤ 1000000) → (xs.map itoaB).foldl PS.step st = ⟨st.xs ++ xs, st.ts, st.signs⟩
  | [], st, _ => by simp
  | n :: xs, st, h => by
    have hn := h n (List.mem_cons_self ..)
    have e : st.step (itoaB n) = ⟨st.xs ++ [n], st.ts, st.signs⟩ := by unfold PS.step; rw [numOf_itoa n hn.1 hn.2]
    rw [List.map_cons, List.foldl_cons, e, fold_nums xs _ (fun m hm => h m (List.mem_cons_of_mem _ hm))]
    simp
theorem get0 {p : ByteArray} {b : UInt8} {l : List UInt8} (h : p.data.toList = b :: l) : p.get! 0 = b ∧ p.extract 0 1 = ⟨#[b]⟩ ∧ p.extract 1 p.size = ⟨l.toArray⟩ := by
  have hs : p.size = l.length + 1 := by rw [← size_len, h]; rfl
  refine ⟨?_, ?_, ?_⟩
  · rw [get_get p 0 (by omega)]
    have hl : 0 < p.data.toList.length := by rw [size_len]; omega
    have : p.data.toList[0]'hl = b := by simp [h]
    rw [← this]
    rfl
  · rw [Lib.extract_eq, h]; rfl
  · rw [Lib.extract_eq, h, hs]; simp
theorem step_tuple (st : PS) (signs : ByteArray) (k : Nat) (t : S51) (ht : t.bad = false) (hs : signs.toList = [] ∨ (k < signs.size ∧ (signs.get! k = 43 ∨ signs.get! k = 45))) :
    st.step (tword signs k t) = ⟨st.xs, st.ts ++ [t], if signs.toList = [] then st.signs else st.signs ++ signs.extract k (k + 1)⟩ := by
  obtain ⟨_, b, l, hbl, h1, h2⟩ := tText_word ht
  by_cases hse : signs.toList = []
  · have e := tword_list signs k t (.inl hse)
    rw [if_pos hse] at e
    have e' : tword signs k t = tText t := ba_ext e
    rw [e', if_pos hse]
    have hn := numOf_letter (tText t) b l (.inl hbl) h1
    have hg := (get0 hbl).1
    have hsg : signed (tText t) = false := by unfold signed; rw [hg]; simp; omega
    unfold PS.step
    rw [hn, hsg, readOf_text t ht]
    rfl
  · obtain ⟨hk, hsb⟩ := hs.resolve_left hse
    have e := tword_list signs k t (.inr hk)
    rw [if_neg hse] at e
    have hn : numOf (tword signs k t) = none := by
      refine numOf_letter _ b l ?_ h1
      rw [e, hbl]
      rcases hsb with h | h
      · exact .inr (.inl (by rw [h]))
      · exact .inr (.inr (by rw [h]))
    obtain ⟨g1, g2, g3⟩ := get0 e
    have hsg : signed (tword signs k t) = true := by unfold signed; rw [g1]; rcases hsb with h | h <;> rw [h] <;> decide
    have g4 : (tword signs k t).extract 1 (tword signs k t).size = tText t := g3.trans (mk_eq _)
    have g5 : (tword signs k t).extract 0 1 = signs.extract k (k + 1) := by
      rw [g2]
      refine ba_ext ?_
      rw [Lib.extract_eq, mk_toList, Nat.add_sub_cancel_left]
      have hl : k < signs.data.toList.length := by rw [size_len]; exact hk
      rw [List.drop_eq_getElem_cons hl, get_get signs k hk]
      rfl
    unfold PS.step
    rw [hn, hsg, g4, g5, readOf_text t ht, if_neg hse]
    rfl
theorem fold_tups (x : S29) (G : GoodIs x) (st : PS) : ∀ k, k ≤ x.f2.length → (wordsT x.f3 x.f2 k).foldl PS.step st = ⟨st.xs, st.ts ++ x.f2.take k, if x.f3.toList = [] then st.signs else st.signs ++ x.f3.extract 0 k⟩
  | 0, _ => by
    simp only [wordsT, List.range_zero, List.map_nil, List.foldl_nil, List.take_zero, List.append_nil]
    have e : st.signs ++ x.f3.extract 0 0 = st.signs := ba_ext (by rw [ByteArray.data_append, Lib.extract_eq]; simp)
    rw [e]
    split <;> rfl
  | k + 1, hk => by
    have hk' : k < x.f2.length := by omega
    rw [wordsT_step, List.foldl_append, fold_tups x G st k (by omega), rd_T51_at _ _ hk', List.foldl_cons, List.foldl_nil]
    have hs : x.f3.toList = [] ∨ (k < x.f3.size ∧ (x.f3.get! k = 43 ∨ x.f3.get! k = 45)) := by
      rcases G.signs with h | ⟨h, h2⟩
      · exact .inl h
      · refine .inr ⟨by omega, h2 _ ?_⟩
        rw [get_get _ _ (by omega)]
        exact Array.getElem_mem_toList _
    rw [step_tuple _ x.f3 k _ (G.tups _ (List.getElem_mem hk')) hs]
    have e1 : st.ts ++ x.f2.take k ++ [x.f2[k]] = st.ts ++ x.f2.take (k + 1) := by rw [List.append_assoc, List.take_append_getElem hk']
    have e2 : st.signs ++ x.f3.extract 0 k ++ x.f3.extract k (k + 1) = st.signs ++ x.f3.extract 0 (k + 1) := by
      refine ba_ext ?_
      simp only [ByteArray.data_append, Array.toList_append, Lib.extract_eq, mk_toList]
      rw [List.append_assoc]
      congr 1
      simp only [Nat.sub_zero, List.drop_zero, Nat.add_sub_cancel_left]
      rw [List.take_add]
    simp only [e1]
    split
    · rfl
    · rw [e2]

/-! ### a line's text, read again, is the line -/
theorem s29_ext {x y : S29} (h0 : x.f0 = y.f0) (h1 : x.f1 = y.f1) (h2 : x.f2 = y.f2) (h3 : x.f3 = y.f3) (h4 : x.f4 = y.f4) : x = y := by cases x; cases y; simp only at h0 h1 h2 h3 h4; subst h0 h1 h2 h3 h4; rfl
theorem word_plain {x : S29} (G : GoodIs x) : (32 : UInt8) ∉ x.f0.data.toList := by
  intro h
  have := letters_mem (find_word _ G.is).1 _ h
  exact absurd this (by decide)
theorem cut_join (v : ByteArray) (vs : List ByteArray) (hv : (32 : UInt8) ∉ v.data.toList) : cut1 (joined (v :: vs)) ⟨#[32]⟩ = v ∧ cut2 (joined (v :: vs)) ⟨#[32]⟩ = joined vs := by
  have h := join_cons v vs
  split at h
  · rename_i h0
    subst h0
    have e : joined [v] = v := ba_ext h
    rw [e]
    obtain ⟨e1, e2⟩ := cut1_none v 32 hv
    exact ⟨e1, e2.trans (by unfold joined Lib.join; rfl)⟩
  · obtain ⟨e1, e2⟩ := cut1_mid _ _ 32 _ h hv
    exact ⟨e1.trans (mk_eq _), e2.trans (mk_eq _)⟩
/-- a line without its line feed -/
def lineJ (x : S29) : ByteArray := joined (wordsN x.f0 x.f1 ++ wordsT x.f3 x.f2 x.f2.length ++ (if x.f4.toList = [] then [] else [x.f4]))
theorem textLn_J (x : S29) : textLn x = lineJ x ++ nlb := rfl
theorem line_back (x : S29) (h : goodL x = true) : lineOf (lineJ x) = x ∧ (10 : UInt8) ∉ (lineJ x).data.toList := by
  have G := good_is h
  have hw := word_plain G
  have hlet := letters_mem (find_word _ G.is).1
  cases ht : (findE x.f0).text
  · have h4 := G.text0 ht
    have e : lineJ x = joined (x.f0 :: itemsOf x) := by
      unfold lineJ itemsOf wordsN
      have e0 : (⟨#[]⟩ : ByteArray).toList = [] := by rw [ByteArray.toList_eq]
      rw [h4, if_pos e0]
      simp
    have hnr : ¬ x.f0.toList = ([114, 117, 108, 101, 115] : List UInt8) := fun hr => by
      have := (find_word _ G.is).2.2 hr
      rw [ht] at this
      cases this
    obtain ⟨c1, c2⟩ := cut_join x.f0 (itemsOf x) hw
    have hr : isRules (lineJ x) = false := by
      unfold isRules wordOf
      rw [e, c1]
      exact beq_eq_false_iff_ne.2 hnr
    have hp : partsOf (lineJ x) = ⟨x.f1, x.f2, x.f3⟩ := by
      unfold partsOf
      rw [hr]
      show (fieldsOf (restOf (lineJ x))).foldl PS.step _ = _
      unfold restOf
      rw [e, c2, fieldsOf_join _ (items_words G)]
      unfold itemsOf
      rw [List.foldl_append, fold_nums _ _ G.nums, fold_tups x G _ _ (Nat.le_refl _)]
      simp only [List.nil_append, List.take_length]
      congr 1
      split
      · rename_i hs
        exact (tl_nil hs).symm
      · rename_i hs
        have hs' := (G.signs.resolve_left hs).1
        refine ba_ext ?_
        rw [ByteArray.data_append, Lib.extract_eq, ← hs']
        simp
        exact List.take_of_length_le (by rw [size_len]; exact Nat.le_refl _)
    refine ⟨s29_ext ?_ ?_ ?_ ?_ ?_, ?_⟩
    · show wordOf (lineJ x) = _
      unfold wordOf
      rw [e, c1]
    · show (partsOf (lineJ x)).xs = _
      rw [hp]
    · show (partsOf (lineJ x)).ts = _
      rw [hp]
    · show (partsOf (lineJ x)).signs = _
      rw [hp]
    · show textOf (lineJ x) = _
      unfold textOf
      rw [hr, h4]
      rfl
    · rw [e]
      intro hm
      rcases join_mem _ _ hm with hm | ⟨v, hv, hm⟩
      · exact absurd hm (by decide)
      · rcases List.mem_cons.1 hv with rfl | hv
        · exact absurd (hlet _ hm) (by decide)
        · have := (items_words G _ (List.mem_map.2 ⟨v, hv, rfl⟩)).2 _ hm
          unfold wordB at this
          exact absurd this (by decide)
  · obtain ⟨t1, t2, t3, t4, t5⟩ := G.text1 ht
    have hne : x.f4.toList ≠ [] := fun h0 => by
      rw [tl_nil h0] at t4
      exact absurd t4 (by decide)
    have e : lineJ x = joined [x.f0, x.f4] := by
      unfold lineJ wordsN
      rw [if_neg hne, t1, t2]
      rfl
    have hru := (find_word _ G.is).2.1 ht
    obtain ⟨c1, c2⟩ := cut_join x.f0 [x.f4] hw
    have c3 : joined [x.f4] = x.f4 := ba_ext (by rw [join_cons, if_pos rfl])
    have hr : isRules (lineJ x) = true := by
      unfold isRules wordOf
      rw [e, c1, hru]
      rfl
    have hp : partsOf (lineJ x) = ⟨[], [], ⟨#[]⟩⟩ := by unfold partsOf; rw [hr]; rfl
    refine ⟨s29_ext ?_ ?_ ?_ ?_ ?_, ?_⟩
    · show wordOf (lineJ x) = _
      unfold wordOf
      rw [e, c1]
    · show (partsOf (lineJ x)).xs = _
      rw [hp, t1]
    · show (partsOf (lineJ x)).ts = _
      rw [hp, t2]
    · show (partsOf (lineJ x)).signs = _
      rw [hp, t3]
    · show textOf (lineJ x) = _
      unfold textOf restOf
      rw [hr, e, c2, c3]
      rfl
    · rw [e]
      intro hm
      rcases join_mem _ _ hm with hm | ⟨v, hv, hm⟩
      · exact absurd hm (by decide)
      · rcases List.mem_cons.1 hv with rfl | hv
        · exact absurd (hlet _ hm) (by decide)
        · rw [List.mem_singleton] at hv
          subst hv
          exact absurd (t5 _ hm) (by decide)

/-! ### lines' text, read again, is the lines -/
/-- lines' text -/
def textAll (l : List S29) : ByteArray := l.foldr (fun x s => textLn x ++ s) ⟨#[]⟩
theorem textAll_cons (x : S29) (l : List S29) : textAll (x :: l) = textLn x ++ textAll l := rfl
theorem textLn_list (x : S29) (s : ByteArray) : (textLn x ++ s).data.toList = (lineJ x).data.toList ++ 10 :: s.data.toList := by
  rw [textLn_J]
  unfold nlb
  simp [ByteArray.data_append]
theorem good_line (x : S29) (s : ByteArray) (h : goodL x = true) : lineGood (textLn x ++ s) = true ∧ lineOf (cut1 (textLn x ++ s) nlb) = x ∧ cut2 (textLn x ++ s) nlb = s := by
  obtain ⟨h1, h2⟩ := line_back x h
  obtain ⟨e1, e2⟩ := cut1_mid (textLn x ++ s) _ 10 _ (textLn_list x s) h2
  have e1' : cut1 (textLn x ++ s) nlb = lineJ x := e1.trans (mk_eq _)
  have e2' : cut2 (textLn x ++ s) nlb = s := e2.trans (mk_eq _)
  refine ⟨?_, by rw [e1', h1], e2'⟩
  unfold lineGood
  rw [e1', h1, h, Bool.true_and, List.isPrefixOf_iff_prefix, ByteArray.data_append, Array.toList_append]
  exact List.prefix_append _ _
theorem readGo_text : ∀ (l : List S29) (s : ByteArray) (acc : List S29) (n f g : Nat), (∀ x ∈ l, goodL x = true) → (textAll l ++ s).size < f → s.size < g → readGo f (textAll l ++ s) acc n = readGo g s (acc ++ l) (n + l.length)
  | [], s, acc, n, f, g, _, hf, hg => by
    have e : textAll [] ++ s = s := ba_ext (by show ((⟨#[]⟩ : ByteArray) ++ s).data.toList = _; rw [ByteArray.data_append]; simp)
    rw [e] at hf ⊢
    rw [List.append_nil]
    exact readGo_fuel f g s acc n hf hg
  | x :: l, s, acc, n, f, g, h, hf, hg => by
    have e : textAll (x :: l) ++ s = textLn x ++ (textAll l ++ s) := by rw [textAll_cons, ba_assoc]
    rw [e] at hf ⊢
    obtain ⟨g1, g2, g3⟩ := good_line x (textAll l ++ s) (h x (List.mem_cons_self ..))
    obtain ⟨f', rfl⟩ : ∃ f', f = f' + 1 := ⟨f - 1, by omega⟩
    have hlt := good_less _ g1
    rw [g3] at hlt
    rw [readGo, if_neg (by omega), if_pos g1, g2, g3, readGo_text l s _ _ f' g (fun y hy => h y (List.mem_cons_of_mem _ hy)) (by omega) hg]
    simp only [List.append_assoc, List.singleton_append, List.length_cons]
    rw [show n + 1 + l.length = n + (l.length + 1) by omega]
theorem read_text (l : List S29) (h : ∀ x ∈ l, goodL x = true) : readAll (textAll l) = (l, 0, true) := by
  have e : textAll l ++ ⟨#[]⟩ = textAll l := ba_ext (by rw [ByteArray.data_append]; simp)
  have := readGo_text l ⟨#[]⟩ [] 1 ((textAll l).size + 1) 1 h (by rw [e]; omega) (by decide)
  rw [e] at this
  unfold readAll
  rw [this, List.nil_append]
  rfl
end Go.Proofs.YtbdoafigggcdpaaGreatDoor.PScr
