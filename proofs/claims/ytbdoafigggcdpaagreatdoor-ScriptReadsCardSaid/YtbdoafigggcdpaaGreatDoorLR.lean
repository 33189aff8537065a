/- What a text that Read takes is, and what is ahead of the line that is wrong; the walk of the law ScriptReads: it is true. No condition of ours. -/
import Derived.Test.YtbdoafigggcdpaaGreatDoorLN
import Derived.Test.YtbdoafigggcdpaaGreatDoorMH
import Derived.Test.YtbdoafigggcdpaaGreatDoorPF
namespace Go.Proofs.YtbdoafigggcdpaaGreatDoor.PScr
open Go.RowKit Go.Proofs.YtbdoafigggcdpaaGreatDoorW.PrintWords Go.Proofs.YtbdoafigggcdpaaGreatDoorW.PrintLast Go.Proofs.YtbdoafigggcdpaaGreatDoorW.PrintMore
set_option linter.unusedVariables false
set_option linter.unusedSimpArgs false

theorem split_one : ∀ (a c b d : List UInt8), a ++ 10 :: b = c ++ 10 :: d → (10 : UInt8) ∉ a → (10 : UInt8) ∉ c → a = c ∧ b = d
  | [], [], b, d, h, _, _ => by
    simp only [List.nil_append, List.cons.injEq, true_and] at h
    exact ⟨rfl, h⟩
  | [], y :: c, b, d, h, _, hc => by
    simp only [List.nil_append, List.cons_append, List.cons.injEq] at h
    exact absurd (List.mem_cons_self ..) (h.1 ▸ hc)
  | x :: a, [], b, d, h, ha, _ => by
    simp only [List.nil_append, List.cons_append, List.cons.injEq] at h
    exact absurd (List.mem_cons_self ..) (h.1.symm ▸ ha)
  | x :: a, y :: c, b, d, h, ha, hc => by
    simp only [List.cons_append, List.cons.injEq] at h
    obtain ⟨h1, h2⟩ := split_one a c b d h.2 (fun hm => ha (List.mem_cons_of_mem _ hm)) (fun hm => hc (List.mem_cons_of_mem _ hm))
    exact ⟨by rw [h.1, h1], h2⟩
/-- a text whose first line is right is that line's text and what is behind it -/
theorem good_text (s : ByteArray) (h : lineGood s = true) : s = textLn (lineOf (cut1 s nlb)) ++ cut2 s nlb := by
  obtain ⟨h1, h2⟩ := good_split s h
  have hg := lineGood_good h
  obtain ⟨_, h3⟩ := line_back _ hg
  unfold lineGood at h
  rw [Bool.and_eq_true] at h
  obtain ⟨r, hr⟩ := List.isPrefixOf_iff_prefix.1 h.2
  have hl := textLn_list (lineOf (cut1 s nlb)) ⟨r.toArray⟩
  rw [ByteArray.data_append, Array.toList_append, mk_toList] at hl
  rw [hl, h1] at hr
  obtain ⟨e1, e2⟩ := split_one _ _ _ _ hr h3 h2
  refine ba_ext ?_
  rw [textLn_list, h1, e1]
theorem readGo_parts : ∀ (f : Nat) (s : ByteArray) (acc : List S29) (n : Nat), s.size < f → ∃ (m : List S29) (r : ByteArray), s = textAll m ++ r ∧ (∀ x ∈ m, goodL x = true) ∧ ((readGo f s acc n).2.2 = true → r = ⟨#[]⟩ ∧ (readGo f s acc n).1 = acc ++ m) ∧ ((readGo f s acc n).2.2 = false → r.size ≠ 0 ∧ (readGo f s acc n).2.1 = n + m.length)
  | 0, s, acc, n, h => by omega
  | f + 1, s, acc, n, h => by
    by_cases h0 : s.size = 0
    · have e : readGo (f + 1) s acc n = (acc, 0, true) := by rw [readGo, if_pos h0]
      have es : s = ⟨#[]⟩ := ba_ext (by
        have := size_len s
        rw [h0] at this
        rw [List.length_eq_zero_iff.1 this])
      refine ⟨[], ⟨#[]⟩, ?_, by simp, fun _ => ⟨rfl, by rw [e]; simp⟩, fun hf => (by rw [e] at hf; cases hf)⟩
      rw [es]
      exact ba_ext (by show _ = ((⟨#[]⟩ : ByteArray) ++ (⟨#[]⟩ : ByteArray)).data.toList; rw [ByteArray.data_append]; rfl)
    · by_cases hg : lineGood s = true
      · have e : readGo (f + 1) s acc n = readGo f (cut2 s nlb) (acc ++ [lineOf (cut1 s nlb)]) (n + 1) := by rw [readGo, if_neg h0, if_pos hg]
        have hl := good_less s hg
        obtain ⟨m, r, h1, h2, h3, h4⟩ := readGo_parts f (cut2 s nlb) (acc ++ [lineOf (cut1 s nlb)]) (n + 1) (by omega)
        refine ⟨lineOf (cut1 s nlb) :: m, r, ?_, ?_, fun hh => ?_, fun hh => ?_⟩
        · rw [textAll_cons, ba_assoc, ← h1]
          exact good_text s hg
        · intro x hx
          rcases List.mem_cons.1 hx with rfl | hx
          · exact lineGood_good hg
          · exact h2 x hx
        · rw [e] at hh ⊢
          obtain ⟨h5, h6⟩ := h3 hh
          exact ⟨h5, by rw [h6]; simp⟩
        · rw [e] at hh ⊢
          obtain ⟨h5, h6⟩ := h4 hh
          exact ⟨h5, by rw [h6, List.length_cons]; omega⟩
      · have e : readGo (f + 1) s acc n = ([], n, false) := by rw [readGo, if_neg h0, if_neg hg]
        refine ⟨[], s, ?_, by simp, fun hh => (by rw [e] at hh; cases hh), fun _ => ⟨h0, by rw [e]; rfl⟩⟩
        exact ba_ext (by show _ = ((⟨#[]⟩ : ByteArray) ++ s).data.toList; rw [ByteArray.data_append]; simp)
theorem read_back (s : ByteArray) (l : List S29) (n : Nat) (h : readAll s = (l, n, true)) : textAll l = s ∧ ∀ x ∈ l, goodL x = true := by
  obtain ⟨m, r, h1, h2, h3, _⟩ := readGo_parts (s.size + 1) s [] 1 (Nat.lt_succ_self _)
  have h' : readGo (s.size + 1) s [] 1 = (l, n, true) := h
  rw [h'] at h3
  obtain ⟨h4, h5⟩ := h3 rfl
  have h6 : l = m := h5
  rw [h6]
  refine ⟨?_, h2⟩
  rw [h1, h4]
  exact ba_ext (by rw [ByteArray.data_append]; simp)
/-- the lines ahead of the one that is wrong -/
theorem read_ahead (s : ByteArray) (l : List S29) (n : Nat) (h : readAll s = (l, n, false)) : ∃ (m : List S29) (r : ByteArray), s = textAll m ++ r ∧ (∀ x ∈ m, goodL x = true) ∧ r.size ≠ 0 ∧ n = 1 + m.length := by
  obtain ⟨m, r, h1, h2, _, h4⟩ := readGo_parts (s.size + 1) s [] 1 (Nat.lt_succ_self _)
  have h' : readGo (s.size + 1) s [] 1 = (l, n, false) := h
  rw [h'] at h4
  obtain ⟨h5, h6⟩ := h4 rfl
  exact ⟨m, r, h1, h2, h5, h6⟩
/-- how many line feeds stand ahead of a place -/
def feeds (s : ByteArray) (a : Nat) : Nat := (s.data.toList.take a).count 10
theorem feeds_step (s : ByteArray) (a : Nat) (h : a < s.size) : feeds s (a + 1) = feeds s a + if s.get! a = 10 then 1 else 0 := by
  unfold feeds
  have hl : a < s.data.toList.length := by rw [size_len]; exact h
  have e : s.data.toList.take (a + 1) = s.data.toList.take a ++ [s.get! a] := by
    rw [get_get s a h]
    exact (List.take_append_getElem hl).symm
  rw [e, List.count_append, List.count_singleton]
  by_cases hc : s.get! a = 10
  · rw [hc]; rfl
  · rw [if_neg hc, beq_eq_false_iff_ne.2 (fun h => hc h)]; rfl
theorem lines_count : ∀ (m : List S29), (∀ x ∈ m, goodL x = true) → (textAll m).data.toList.count 10 = m.length
  | [], _ => rfl
  | x :: m, h => by
    obtain ⟨_, h3⟩ := line_back x (h x (List.mem_cons_self ..))
    rw [textAll_cons, textLn_list, List.count_append, List.count_cons, lines_count m (fun y hy => h y (List.mem_cons_of_mem _ hy)), List.count_eq_zero.2 h3]
    simp
theorem lines_end : ∀ (m : List S29), m ≠ [] → ∃ q, (textAll m).data.toList = q ++ [10]
  | [], h => absurd rfl h
  | [x], _ => by
    rw [textAll_one]
    exact textLn_end x
  | x :: y :: m, _ => by
    obtain ⟨q, hq⟩ := lines_end (y :: m) (by simp)
    exact ⟨(textLn x).data.toList ++ q, by rw [textAll_cons, ByteArray.data_append, Array.toList_append, hq]; simp⟩
theorem feeds_less (s : ByteArray) (m : List S29) (r : ByteArray) (hs : s = textAll m ++ r) (hm : ∀ x ∈ m, goodL x = true) (a : Nat) (ha : a < (textAll m).size) : feeds s a < m.length := by
  have hne : m ≠ [] := fun h => by
    rw [h] at ha
    have : (textAll []).size = 0 := rfl
    omega
  obtain ⟨q, hq⟩ := lines_end m hne
  have hc := lines_count m hm
  rw [hq, List.count_append] at hc
  have hsz : (textAll m).size = q.length + 1 := by rw [← size_len, hq]; simp
  unfold feeds
  rw [hs, ByteArray.data_append, Array.toList_append, hq]
  have e : (q ++ [10] ++ r.data.toList).take a = q.take a := by
    rw [List.append_assoc, List.take_append_of_le_length (by omega)]
  rw [e]
  have h1 : (q.take a).count 10 ≤ q.count 10 := List.Sublist.count_le _ (List.take_sublist _ _)
  have h2 : ([10] : List UInt8).count 10 = 1 := rfl
  omega
theorem feeds_all (s : ByteArray) (m : List S29) (r : ByteArray) (hs : s = textAll m ++ r) (hm : ∀ x ∈ m, goodL x = true) : feeds s (textAll m).size = m.length := by
  unfold feeds
  rw [hs, ByteArray.data_append, Array.toList_append, ← size_len, List.take_left]
  exact lines_count m hm
theorem cut_ahead (s : ByteArray) (m : List S29) (r : ByteArray) (hs : s = textAll m ++ r) : s.extract 0 (textAll m).size = textAll m := by
  refine ba_ext ?_
  rw [Lib.extract_eq, mk_toList, hs, ByteArray.data_append, Array.toList_append, List.drop_zero, Nat.sub_zero, ← size_len, List.take_left]

set_option maxRecDepth 100000 in
set_option maxHeartbeats 4000000 in
theorem reads_any (w0 : World) (F : Facts w0) (s : ByteArray) (w : World) (hB0 : Below w0.heap.size w0 w) (hE : EntsIn w) :
    Calls Tryz.prog 4 #[.string s] w fun e w' => e = .returned (.bool true) ∧ Below w.heap.size w w' := by
  have hu29 := Tryz.underlying29
  have hu22 := Tryz.underlying22
  have HB0 := Aside0.mk hB0; clear hB0
  have HE := Aside0.mk hE; clear hE
  have next : ∀ {w1 : World}, Below w.heap.size w w1 → Below w0.heap.size w0 w1 := fun h => below_weaken HB0.out HB0.out.size h
  have HN := Aside0.mk @next; clear next
  by_cases ha : 2000 < s.size
  · have q1 : (2000 : Int) < (s.size : Int) := by omega
    go_enter Tryz.func4, Tryz.ntmps4
    go_wp2_with fail
    refine (awake_any w0 F w HB0.out HE.out).mono ?_
    rintro e w1 ⟨rfl, hb⟩
    have HB1 := Aside0.mk hb; clear hb
    go_wp2_with fail
    refine (awake_any w0 F w1 (HN.out HB1.out) (HE.out.below HB1.out)).mono ?_
    rintro e w2 ⟨rfl, hb⟩
    have HB2 := Aside0.mk (below_step HB1.out hb); clear hb
    go_wp2
    go_ret
    exact ⟨rfl, HB2.out⟩
  have q1 : ¬ (2000 : Int) < (s.size : Int) := by omega
  obtain ⟨l, n, o, hr⟩ : ∃ l n o, readAll s = (l, n, o) := ⟨_, _, _, rfl⟩
  have hlen := readAll_len s
  rw [hr] at hlen
  simp only at hlen
  obtain ⟨hl1, hl2, hl3, hl4⟩ := hlen
  cases o with
  | true =>
    obtain ⟨ht, hgd⟩ := read_back s l n hr
    have hall : l.all goodL = true := by rw [List.all_eq_true]; exact hgd
    have hst : showT l = s := by unfold showT; rw [hall, if_pos rfl, ht]
    have hrd := fun w1 (hb1 : Below w.heap.size w w1) => readOk_any w0 F s (by omega) w1 (HN.out hb1) (HE.out.below hb1) l n hr
    have HRD := Aside0.mk hrd
    have HST := Aside0.mk hst; have HALL := Aside0.mk hall; have HGD := Aside0.mk hgd
    clear hr hrd hst hall hgd ht hl3 hl4
    go_enter Tryz.func4, Tryz.ntmps4
    go_wp2_with fail
    refine (awake_any w0 F w HB0.out HE.out).mono ?_
    rintro e w1 ⟨rfl, hb⟩
    have HB1 := Aside0.mk hb; clear hb
    go_wp2_with fail
    refine (HRD.out w1 HB1.out).mono ?_
    rintro e w2 ⟨⟨A, c, rfl, hrow⟩, hb⟩
    have HB2 := Aside0.mk (below_step HB1.out hb); clear hb
    have HROW := Aside0.mk hrow; clear hrow
    have hsw := refShow_any A c l (by omega) (fun x hx => by
      obtain ⟨s1, s2, s3, s4, s5, s6, s7⟩ := good_small (HGD.out x hx)
      have G := good_is (HGD.out x hx)
      refine ⟨⟨by omega, by omega, ?_, by omega⟩, fun t ht => ?_⟩
      · rcases s5 with h | h
        · rw [tl_nil h]; decide
        · omega
      · have hb := G.tups t ht
        have hok : tupleOk t.f0 t.f1 t.f2 t.f3.f0 t.f3.f1 t.f3.f2 = true := by unfold S51.bad at hb; simpa using hb
        obtain ⟨a0, a1, a2, _, a4, a5, a6⟩ := tuple_sizes hok
        exact ⟨by omega, by omega, by omega, by omega, by omega, by omega⟩) w2 (Kd.R_reads' HROW.out).2.2
    rw [HST.out, HALL.out] at hsw
    go_wp2_with fail
    refine hsw.mono ?_
    clear hsw
    rintro e w3 ⟨rfl, hb⟩
    have HB3 := Aside0.mk (below_step HB2.out hb); clear hb
    go_wp2
    go_ret
    exact ⟨rfl, HB3.out⟩
  | false =>
    obtain ⟨m, r, hs, hm, hr0, hn⟩ := read_ahead s l n hr
    have hrm := read_text m hm
    have hcut := cut_ahead s m r hs
    have hsz : s.size = (textAll m).size + r.size := by conv => lhs; rw [hs]; rw [ByteArray.size_append]
    have hless := feeds_less s m r hs hm
    have hfull := feeds_all s m r hs hm
    have hstep := feeds_step s
    have hrd := fun w1 (hb1 : Below w.heap.size w w1) => readBad_any w0 F s (by omega) w1 (HN.out hb1) (HE.out.below hb1) l n hr
    have hrd2 := fun w1 (hb1 : Below w.heap.size w w1) => readOk_any w0 F (textAll m) (by omega) w1 (HN.out hb1) (HE.out.below hb1) m 0 hrm
    have HRD := Aside0.mk hrd; have HRD2 := Aside0.mk hrd2
    obtain ⟨N, hN⟩ : ∃ N, (textAll m).size = N := ⟨_, rfl⟩
    rw [hN] at hcut hsz hless hfull
    have HCUT := Aside0.mk hcut; have HLESS := Aside0.mk hless; have HFULL := Aside0.mk hfull; have HSTEP := Aside0.mk hstep
    clear hr hrd hrd2 hcut hless hfull hstep hs hm hrm hl3 hl4 hN
    go_enter Tryz.func4, Tryz.ntmps4
    go_wp2_with fail
    refine (awake_any w0 F w HB0.out HE.out).mono ?_
    rintro e w1 ⟨rfl, hb⟩
    have HB1 := Aside0.mk hb; clear hb
    go_wp2_with fail
    refine (HRD.out w1 HB1.out).mono ?_
    rintro e w2 ⟨⟨A, c, rfl⟩, hb⟩
    have HB2 := Aside0.mk (below_step HB1.out hb); clear hb
    go_upto_region 8 with fail
    go_loopw [8, 9] (fun i j wx => ∃ a : Nat, a ≤ N ∧ i = .int .i64 a ∧ j = .int .i64 (1 + feeds s a : Nat) ∧ Aside0 (Below w.heap.size w wx)) (fun i _ _ => N - (intOf i).toNat)
    case atStart => exact ⟨0, by omega, rfl, rfl, HB2⟩
    case round =>
      clear HB2
      obtain ⟨a, ha2, rfl, rfl, HB2⟩ := hrel
      by_cases hlt : a < N
      · have hfl := HLESS.out a hlt
        have hst := HSTEP.out a (by omega)
        obtain ⟨fd, hfd⟩ : ∃ fd, feeds s a = fd := ⟨_, rfl⟩
        rw [hfd] at hfl hst
        rw [hfd]
        clear hfd
        have hgg := get_get s a (by omega)
        have hlt2 : a < s.size := by omega
        have q2 : (a : Int) < (s.size : Int) := by omega
        have q3 : ((1 + fd : Nat) : Int) < (n : Int) := by omega
        have q3' : (1 + (fd : Int)) < (n : Int) := by omega
        obtain ⟨ch, hch⟩ : ∃ ch : UInt8, s[a]'hlt2 = ch := ⟨_, rfl⟩
        rw [hch] at hgg
        rw [hgg] at hst
        by_cases hc : ch.toNat = 10
        · have hc2 : ch = 10 := UInt8.toNat_inj.1 hc
          rw [if_pos hc2] at hst
          have HST := Aside0.mk hst; clear hst hc2 hgg
          have s1 : ((ch.toNat : Int) == 10) = true := by simp [hc]
          have q5 : wrap64 (1 + (fd : Int) + 1) = ((1 + (fd + 1) : Nat) : Int) := by unfold wrap64; omega
          go_wp2
          exact ⟨⟨a + 1, by omega, by go_num, by rw [HST.out]; go_num, HB2⟩, by simp [intOf]; omega⟩
        · have hc2 : ch ≠ 10 := fun h => hc (by rw [h]; rfl)
          rw [if_neg hc2] at hst
          have HST := Aside0.mk hst; clear hst hc2 hgg
          have s1 : ((ch.toNat : Int) == 10) = false := by rw [beq_eq_false_iff_ne]; omega
          go_wp2
          exact ⟨⟨a + 1, by omega, by go_num, by rw [HST.out]; rfl, HB2⟩, by simp [intOf]; omega⟩
      · obtain rfl : a = N := by omega
        rw [HFULL.out]
        have q2 : (a : Int) < (s.size : Int) := by omega
        have q2' : (a : Int) ≤ (s.size : Int) := by omega
        have e1 : ((1 + m.length : Nat) : Int) = (n : Int) := by omega
        have q3 : ¬ (n : Int) < (n : Int) := by omega
        have q4 : (1 : Int) ≤ (n : Int) := by omega
        have q6 : wrap64 ((n : Int) - 1) = (m.length : Int) := by unfold wrap64; omega
        have q7 : (n : Int) - 1 = (m.length : Int) := by omega
        rw [e1]
        go_wp2_with fail
        rw [HCUT.out]
        refine (HRD2.out wr HB2.out).mono ?_
        rintro e w3 ⟨⟨A2, c2, rfl, _⟩, hb⟩
        have HB3 := Aside0.mk (below_step HB2.out hb); clear hb
        have e9 : ((m.length : Int) == 1 + (m.length : Int) - 1) = true := by rw [beq_iff_eq]; omega
        have HE9 := Aside0.mk e9; clear e9
        go_wp2
        go_ret
        refine ⟨?_, HB3.out⟩
        show Ending.returned (Value.bool ((m.length : Int) == 1 + (m.length : Int) - 1)) = _
        rw [HE9.out]
end Go.Proofs.YtbdoafigggcdpaaGreatDoor.PScr
