/- What the document's Few and Size of a tree are; how long an answer's text is. No condition of ours. -/
import Derived.Test.YtbdoafigggcdpaaGreatDoorVTF
namespace Go.Proofs.YtbdoafigggcdpaaGreatDoor.PScr
open Go.RowKit Go.Proofs.YtbdoafigggcdpaaGreatDoorW.PrintWords Go.Proofs.YtbdoafigggcdpaaGreatDoorW.PrintLast Go.Proofs.YtbdoafigggcdpaaGreatDoorW.PrintMore
set_option linter.unusedVariables false
set_option linter.unusedSimpArgs false

theorem rd_T44_at (l : List S44) (k : Nat) (h : k < l.length) : rd_T44 l (k : Int) = l[k] := by unfold rd_T44; simp [h]
theorem refSize_l0 (op : ByteArray) (us : List S49) (ps : List S44) (hl : ps.length < 1000000) (hch : ∀ p ∈ ps, ∃ k, lunetteref15_Size.f k p.f0 p.f1 p.f2 = some (nodes p : Int)) : ∀ (n i : Nat), i + n = ps.length → ∀ acc : Nat, acc + nodesL (ps.drop i) < 4611686018427387904 → ∃ k, lunetteref15_Size.l0 k (acc : Int) (i : Int) op us ps = some ((acc + nodesL (ps.drop i) : Nat) : Int)
  | 0, i, hi, acc, hb => by
    refine ⟨1, ?_⟩
    unfold lunetteref15_Size.l0
    rw [if_neg (by omega), List.drop_of_length_le (by omega), nodesL]
    rfl
  | n + 1, i, hi, acc, hb => by
    have hlt : i < ps.length := by omega
    have hs := nodesL_at ps i hlt
    have hmem : rd_T44 ps (i : Int) ∈ ps := by rw [rd_T44_at ps i hlt]; exact List.getElem_mem hlt
    obtain ⟨k1, h1⟩ := hch _ hmem
    obtain ⟨k2, h2⟩ := refSize_l0 op us ps hl hch n (i + 1) (by omega) (acc + nodes (rd_T44 ps (i : Int))) (by omega)
    refine ⟨k1 + k2 + 1, ?_⟩
    unfold lunetteref15_Size.l0
    have e1 : lunetteref15_Size.f (k1 + k2) (rd_T44 ps (i : Int)).f0 (rd_T44 ps (i : Int)).f1 (rd_T44 ps (i : Int)).f2 = some (nodes (rd_T44 ps (i : Int)) : Int) := upL (fun k => lunetteref15_Size.f k (rd_T44 ps (i : Int)).f0 (rd_T44 ps (i : Int)).f1 (rd_T44 ps (i : Int)).f2) (fun k => lunetteref15_Size.mono _ _ _ k) _ k2 k1 h1
    have ew : wrap64 ((acc : Int) + (nodes (rd_T44 ps (i : Int)) : Int)) = ((acc + nodes (rd_T44 ps (i : Int)) : Nat) : Int) := by unfold wrap64; omega
    have ei : wrap64 ((i : Int) + 1) = ((i + 1 : Nat) : Int) := by unfold wrap64; omega
    rw [if_pos (by omega), if_pos (by omega), e1, Option.bind_some, ew, ei, Nat.add_comm k1 k2]
    have e2 := upL (fun k => lunetteref15_Size.l0 k ((acc + nodes (rd_T44 ps (i : Int)) : Nat) : Int) ((i + 1 : Nat) : Int) op us ps) (fun k => (lunetteref15_Size.mono_l k).2 _ _ _ _ _) _ k1 k2 h2
    rw [e2, hs]
    congr 2
    omega
theorem pow_small (d : Nat) (h : d ≤ 8) : 41 ^ d ≤ 7984925229121 := by
  have : (41 : Nat) ^ d ≤ 41 ^ 8 := Nat.pow_le_pow_right (by omega) h
  have e : (41 : Nat) ^ 8 = 7984925229121 := by decide
  omega
theorem refSize_f : ∀ (d : Nat) (t : S44), d ≤ 8 → FewT d t → ∃ k, lunetteref15_Size.f k t.f0 t.f1 t.f2 = some (nodes t : Int)
  | 0, _, _, h => h.elim
  | d + 1, t, hd, h => by
    have hn := few_nodes (d + 1) t h
    have hp := pow_small (d + 1) hd
    obtain ⟨h1, h2, h3⟩ := h
    have hq := nodes_eq t
    obtain ⟨k, hk⟩ := refSize_l0 t.f0 t.f1 t.f2 (by omega) (fun p hp => refSize_f d p (by omega) (h3 p hp)) t.f2.length 0 (by omega) 1 (by rw [List.drop_zero]; omega)
    refine ⟨k + 1, ?_⟩
    unfold lunetteref15_Size.f
    rw [List.drop_zero] at hk
    rw [hq]
    exact hk

theorem refFew_l1 (d : Nat) (hd : d ≤ 1000) (op : ByteArray) (us : List S49) (ps : List S44) (hl : ps.length < 1000000) (hch : ∀ p : S44, ∃ k r, lunetteref15_Few.f k p.f0 p.f1 p.f2 (d : Int) = some r ∧ (r = true → FewT d p)) : ∀ (n i : Nat), i + n = ps.length → ∃ k r, lunetteref15_Few.l1 k ((d + 1 : Nat) : Int) (i : Int) op us ps = some r ∧ (r = true → ∀ p ∈ ps.drop i, FewT d p)
  | 0, i, hi => by
    refine ⟨1, true, ?_, fun _ p hp => ?_⟩
    · unfold lunetteref15_Few.l1
      rw [if_neg (by omega)]
    · rw [List.drop_of_length_le (by omega)] at hp
      simp at hp
  | n + 1, i, hi => by
    have hlt : i < ps.length := by omega
    have ed : wrap64 (((d + 1 : Nat) : Int) - 1) = (d : Int) := by unfold wrap64; omega
    have ei : wrap64 ((i : Int) + 1) = ((i + 1 : Nat) : Int) := by unfold wrap64; omega
    obtain ⟨k1, r1, h1, h1t⟩ := hch (rd_T44 ps (i : Int))
    obtain ⟨k2, r2, h2, h2t⟩ := refFew_l1 d hd op us ps hl hch n (i + 1) (by omega)
    have e1 := upL (fun k => lunetteref15_Few.f k (rd_T44 ps (i : Int)).f0 (rd_T44 ps (i : Int)).f1 (rd_T44 ps (i : Int)).f2 (d : Int)) (fun k => (lunetteref15_Few.mono_l k).1 _ _ _ _) _ k2 k1 h1
    have e2 := upL (fun k => lunetteref15_Few.l1 k ((d + 1 : Nat) : Int) ((i + 1 : Nat) : Int) op us ps) (fun k => (lunetteref15_Few.mono_l k).2.2.2 _ _ _ _ _) _ k1 k2 h2
    cases r1 with
    | false =>
      refine ⟨k1 + k2 + 1, false, ?_, fun h => by cases h⟩
      unfold lunetteref15_Few.l1
      rw [if_pos (by omega), if_pos (by omega), ed, e1, Option.bind_some, if_neg (by decide)]
    | true =>
      refine ⟨k1 + k2 + 1, r2, ?_, fun h p hp => ?_⟩
      · unfold lunetteref15_Few.l1
        rw [if_pos (by omega), if_pos (by omega), ed, e1, Option.bind_some, if_pos rfl, ei, Nat.add_comm k1 k2]
        exact e2
      · have e : ps.drop i = ps[i] :: ps.drop (i + 1) := List.drop_eq_getElem_cons hlt
        rw [e] at hp
        rcases List.mem_cons.1 hp with rfl | hp
        · rw [← rd_T44_at ps i hlt]; exact h1t rfl
        · exact h2t h p hp
theorem refFew_l0 (Q : Prop) (x1 : Int) (op : ByteArray) (us : List S49) (ps : List S44) (hl : us.length < 1000000) (h : ∃ k r, lunetteref15_Few.l1 k x1 0 op us ps = some r ∧ (r = true → Q)) : ∀ (n i : Nat), i + n = us.length → ∃ k r, lunetteref15_Few.l0 k x1 (i : Int) op us ps = some r ∧ (r = true → Q)
  | 0, i, hi => by
    obtain ⟨k, r, h1, h2⟩ := h
    refine ⟨k + 1, r, ?_, h2⟩
    unfold lunetteref15_Few.l0
    rw [if_neg (by omega)]
    exact h1
  | n + 1, i, hi => by
    have ei : wrap64 ((i : Int) + 1) = ((i + 1 : Nat) : Int) := by unfold wrap64; omega
    obtain ⟨k, r, h1, h2⟩ := refFew_l0 Q x1 op us ps hl h n (i + 1) (by omega)
    by_cases c0 : ((rd_T49 us (i : Int)).f0.size : Int) > 100
    · refine ⟨1, false, ?_, fun h => by cases h⟩
      unfold lunetteref15_Few.l0
      rw [if_pos (by omega), if_pos (by omega), if_pos c0]
    by_cases c1 : ((rd_T49 us (i : Int)).f1.size : Int) > 100
    · refine ⟨1, false, ?_, fun h => by cases h⟩
      unfold lunetteref15_Few.l0
      rw [if_pos (by omega), if_pos (by omega), if_neg c0, if_pos c1]
    by_cases c2 : ((rd_T49 us (i : Int)).f2.size : Int) > 100
    · refine ⟨1, false, ?_, fun h => by cases h⟩
      unfold lunetteref15_Few.l0
      rw [if_pos (by omega), if_pos (by omega), if_neg c0, if_neg c1, if_pos c2]
    · refine ⟨k + 1, r, ?_, h2⟩
      unfold lunetteref15_Few.l0
      rw [if_pos (by omega), if_pos (by omega), if_neg c0, if_neg c1, if_neg c2, ei]
      exact h1
theorem few_no (x1 : Int) (op : ByteArray) (us : List S49) (ps : List S44) (k : Nat) : lunetteref15_Few.j0 (k + 1) x1 true op us ps = some false := by
  unfold lunetteref15_Few.j0
  rw [if_pos rfl]
theorem refFew_f : ∀ (d : Nat), d ≤ 1000 → ∀ (t : S44), ∃ k r, lunetteref15_Few.f k t.f0 t.f1 t.f2 (d : Int) = some r ∧ (r = true → FewT d t)
  | 0, _, t => by
    refine ⟨2, false, ?_, fun h => by cases h⟩
    unfold lunetteref15_Few.f
    rw [if_pos (show ((0 : Nat) : Int) = 0 by rfl)]
    exact few_no _ _ _ _ 0
  | d + 1, hd, t => by
    have h0 : ¬ ((d + 1 : Nat) : Int) = 0 := by omega
    by_cases c1 : (t.f1.length : Int) > 40
    · refine ⟨2, false, ?_, fun h => by cases h⟩
      unfold lunetteref15_Few.f
      rw [if_neg h0, if_pos c1]
      exact few_no _ _ _ _ 0
    by_cases c2 : (t.f2.length : Int) > 40
    · refine ⟨2, false, ?_, fun h => by cases h⟩
      unfold lunetteref15_Few.f
      rw [if_neg h0, if_neg c1, decide_eq_true c2]
      exact few_no _ _ _ _ 0
    · obtain ⟨k, r, h1, h2⟩ := refFew_l0 (FewT (d + 1) t) ((d + 1 : Nat) : Int) t.f0 t.f1 t.f2 (by omega) (by
        obtain ⟨k, r, h1, h2⟩ := refFew_l1 d (by omega) t.f0 t.f1 t.f2 (by omega) (refFew_f d (by omega)) t.f2.length 0 (by omega)
        exact ⟨k, r, h1, fun h => ⟨by omega, by omega, fun p hp => h2 h p (by rw [List.drop_zero]; exact hp)⟩⟩) t.f1.length 0 (by omega)
      refine ⟨k + 2, r, ?_, h2⟩
      unfold lunetteref15_Few.f
      rw [if_neg h0, if_neg c1, decide_eq_false c2]
      unfold lunetteref15_Few.j0
      rw [if_neg (by decide)]
      exact h1

/-! ### how long an answer's text is -/
theorem ans_size (err line : Int) (tok : ByteArray) (has cut : Bool) (ts : List S51) (us : List S49) (ids : List ByteArray) (es : List S55) (t : S44) (pages : List Int) (herr : numIn err) (hline : numIn line) (lt : ts.length ≤ 40) (lu : us.length ≤ 40) (li : ids.length ≤ 40) (le : es.length ≤ 40) (lg : pages.length ≤ 40) (hes : ∀ x ∈ es, numIn x.f0) (hpg : ∀ n ∈ pages, numIn n) (htok : tok.size ≤ 1500000) (hids : ∀ x ∈ ids, x.size ≤ 1500000) (hnn : numIn (nodes t : Int)) :
    (joined (ansW err line tok has cut ts us ids es t pages)).size ≤ 700000000 := by
  have h1 := itoaB_size2 err herr
  have h2 := itoaB_size2 line hline
  have h3 := itoaB_size2 _ hnn
  have hm : Sm (ansW err line tok has cut ts us ids es t pages) := by
    unfold ansW
    refine Sm.app (Sm.app (Sm.app (Sm.app (Sm.app (Sm.app (Sm.app (Sm.app (Sm.app ?_ (sm_ite sm_nil (sm_one (by omega)))) (sm_ite (sm_one (by decide)) sm_nil)) (sm_ite (sm_one (by decide)) sm_nil)) (sm_map tupW tupW_size ts)) (sm_map usrW usrW_size us)) (sm_ids ids hids)) (sm_ent es hes)) (sm_ite sm_nil (sm_two (by decide) (by omega)))) (sm_num pages hpg)
    split
    · exact ⟨by simp, sm_one (by decide)⟩
    · exact ⟨by simp, fun x hx => by
        rcases List.mem_cons.1 hx with rfl | hx
        · decide
        · exact sm_two (by omega) (by omega) x hx⟩
  have hl : (ansW err line tok has cut ts us ids es t pages).length ≤ 330 := by
    unfold ansW
    have e : (es.flatMap entW).length = 2 * es.length := entW_len es
    have i1 : ∀ (c : Prop) [Decidable c] (a b : List ByteArray), (if c then a else b).length ≤ a.length + b.length := fun c _ a b => by split <;> omega
    have a1 := i1 (err = 0) [⟨#[111, 107]⟩] [⟨#[101, 114, 114, 111, 114]⟩, itoaB err, itoaB line]
    have a2 := i1 (tok.toList = []) [] [tok]
    have a3 := i1 (has = true) [⟨#[104, 97, 115]⟩] []
    have a4 := i1 (cut = true) [⟨#[99, 117, 116]⟩] []
    have a5 := i1 (t.f0.toList = []) [] [⟨#[101, 120, 112, 97, 110, 100]⟩, itoaB (nodes t)]
    simp only [List.length_append, List.length_map, List.length_cons, List.length_nil] at a1 a2 a3 a4 a5 ⊢
    rw [e]
    omega
  have := joined_le _ hm
  omega
end Go.Proofs.YtbdoafigggcdpaaGreatDoor.PScr
