/- The lines of a text are good and few; lines are the same as themselves. No condition of ours. -/
import Derived.Test.YtbdoafigggcdpaaGreatDoorMC
import Derived.Test.YtbdoafigggcdpaaGreatDoorRG
namespace Go.Proofs.YtbdoafigggcdpaaGreatDoor.PScr
open Go.RowKit Go.Proofs.YtbdoafigggcdpaaGreatDoorW.PrintWords Go.Proofs.YtbdoafigggcdpaaGreatDoorW.PrintLast Go.Proofs.YtbdoafigggcdpaaGreatDoorW.PrintMore
set_option linter.unusedVariables false
set_option linter.unusedSimpArgs false

theorem lineGood_good {s : ByteArray} (h : lineGood s = true) : goodL (lineOf (cut1 s nlb)) = true := by
  unfold lineGood at h
  rw [Bool.and_eq_true] at h
  exact h.1
theorem readGo_len : ∀ (f : Nat) (s : ByteArray) (acc : List S29) (n : Nat), (∀ x ∈ acc, goodL x = true) → (readGo f s acc n).1.length ≤ acc.length + s.size ∧ (readGo f s acc n).2.1 ≤ n + s.size ∧ ((readGo f s acc n).2.2 = false → (readGo f s acc n).1 = [] ∧ n ≤ (readGo f s acc n).2.1) ∧ (∀ x ∈ (readGo f s acc n).1, goodL x = true)
  | 0, s, acc, n, h => by simp [readGo]; exact h
  | f + 1, s, acc, n, h => by
    unfold readGo
    split
    · exact ⟨by simp, by simp, by simp, h⟩
    · split
      · rename_i hg
        have hl := good_less s hg
        have ih := readGo_len f (cut2 s nlb) (acc ++ [lineOf (cut1 s nlb)]) (n + 1) (fun x hx => by
          rcases List.mem_append.1 hx with hx | hx
          · exact h x hx
          · rw [List.mem_singleton.1 hx]; exact lineGood_good hg)
        rw [List.length_append, List.length_singleton] at ih
        exact ⟨by omega, by omega, fun hh => ⟨(ih.2.2.1 hh).1, by have := (ih.2.2.1 hh).2; omega⟩, ih.2.2.2⟩
      · exact ⟨by simp, by simp, by simp, by simp⟩
theorem readAll_len (s : ByteArray) : (readAll s).1.length ≤ s.size ∧ (readAll s).2.1 ≤ 1 + s.size ∧ ((readAll s).2.2 = false → (readAll s).1 = [] ∧ 1 ≤ (readAll s).2.1) ∧ (∀ x ∈ (readAll s).1, goodL x = true) := by
  have := readGo_len (s.size + 1) s [] 1 (by simp)
  rw [List.length_nil, Nat.zero_add] at this
  exact this
theorem readAll_zero (s : ByteArray) (h : (readAll s).2.2 = true) : (readAll s).2.1 = 0 := readGo_zero _ _ _ _ h

/-! ### Read, by how it ends -/
theorem readOk_any (w0 : World) (F : Facts w0) (s : ByteArray) (hs : s.size ≤ 900000) (w : World) (hB0 : Below w0.heap.size w0 w) (hE : EntsIn w) (l : List S29) (n : Nat) (hr : readAll s = (l, n, true)) :
    Calls Tryz.prog 14 #[.string s] w fun e w' => (∃ A c, e = .returned (.tuple #[.slice A l.length c, .int .i64 0, .int .i64 0]) ∧ k29.R 29 w' w.heap.size (fun _ => True) (.slice A l.length c) l) ∧ Below w.heap.size w w' := by
  have hz := readAll_zero s (by rw [hr])
  rw [hr] at hz
  have hz' : n = 0 := hz
  subst hz'
  refine (read_any w0 F s hs w hB0 hE _ hr).mono ?_
  rintro e w' ⟨⟨v, rfl, hrow⟩, hb⟩
  obtain ⟨A, c, rfl⟩ := Kd.R_slice hrow
  exact ⟨⟨A, c, rfl, hrow⟩, hb⟩
theorem readBad_any (w0 : World) (F : Facts w0) (s : ByteArray) (hs : s.size ≤ 900000) (w : World) (hB0 : Below w0.heap.size w0 w) (hE : EntsIn w) (l : List S29) (n : Nat) (hr : readAll s = (l, n, false)) :
    Calls Tryz.prog 14 #[.string s] w fun e w' => (∃ A c, e = .returned (.tuple #[.slice A 0 c, .int .i64 n, .int .i64 200])) ∧ Below w.heap.size w w' := by
  have hz := (readAll_len s).2.2.1 (by rw [hr])
  rw [hr] at hz
  have hz' : l = [] := hz.1
  subst hz'
  refine (read_any w0 F s hs w hB0 hE _ hr).mono ?_
  rintro e w' ⟨⟨v, rfl, hrow⟩, hb⟩
  obtain ⟨A, c, rfl⟩ := Kd.R_slice hrow
  exact ⟨⟨A, c, rfl⟩, hb⟩

/-! ### the same lines -/
theorem wrapE (i : Nat) (h : i < 1099511627776) : wrap64 ((i : Int) + 1) = ((i + 1 : Nat) : Int) := by unfold wrap64; omega
theorem same2 (l : List S29) (i : Int) (h : ∃ k, lunetteref20_Same.l0 k l l (wrap64 (i + 1)) = some true) (a : ByteArray) (xs : List Int) (ts : List S51) (sg tx : ByteArray) (hts : ts.length < 1099511627776) : ∀ (d j : Nat), j + d = ts.length → ∃ k, lunetteref20_Same.l2 k l l i (j : Int) a xs ts sg tx a xs ts sg tx = some true
  | 0, j, hj => by
    obtain ⟨k, hk⟩ := h
    refine ⟨k + 1, ?_⟩
    unfold lunetteref20_Same.l2
    rw [if_neg (by omega)]
    exact hk
  | d + 1, j, hj => by
    obtain ⟨k, hk⟩ := same2 l i h a xs ts sg tx hts d (j + 1) (by omega)
    refine ⟨k + 1, ?_⟩
    unfold lunetteref20_Same.l2
    rw [if_pos (by omega), if_pos (by omega), if_pos (by omega), if_neg (by simp), wrapE j (by omega)]
    exact hk
theorem same1 (l : List S29) (i : Int) (h : ∃ k, lunetteref20_Same.l0 k l l (wrap64 (i + 1)) = some true) (a : ByteArray) (xs : List Int) (ts : List S51) (sg tx : ByteArray) (hxs : xs.length < 1099511627776) (hts : ts.length < 1099511627776) : ∀ (d j : Nat), j + d = xs.length → ∃ k, lunetteref20_Same.l1 k l l i (j : Int) a xs ts sg tx a xs ts sg tx = some true
  | 0, j, hj => by
    obtain ⟨k, hk⟩ := same2 l i h a xs ts sg tx hts ts.length 0 (by omega)
    refine ⟨k + 1, ?_⟩
    unfold lunetteref20_Same.l1
    rw [if_neg (by omega)]
    exact hk
  | d + 1, j, hj => by
    obtain ⟨k, hk⟩ := same1 l i h a xs ts sg tx hxs hts d (j + 1) (by omega)
    refine ⟨k + 1, ?_⟩
    unfold lunetteref20_Same.l1
    rw [if_pos (by omega), if_pos (by omega), if_pos (by omega), if_pos rfl, wrapE j (by omega)]
    exact hk
theorem same0 (l : List S29) (hl : l.length < 1099511627776) (hs : ∀ x ∈ l, x.f1.length < 1099511627776 ∧ x.f2.length < 1099511627776) : ∀ (d i : Nat), i + d = l.length → ∃ k, lunetteref20_Same.l0 k l l (i : Int) = some true
  | 0, i, hi => by
    refine ⟨1, ?_⟩
    unfold lunetteref20_Same.l0
    rw [if_neg (by omega)]
  | d + 1, i, hi => by
    have hlt : i < l.length := by omega
    have ih := same0 l hl hs d (i + 1) (by omega)
    rw [← wrapE i (by omega)] at ih
    have hx := hs l[i] (List.getElem_mem hlt)
    have hrd : rd_T29 l (i : Int) = l[i] := by unfold rd_T29; simp [hlt]
    obtain ⟨k, hk⟩ := same1 l (i : Int) ih l[i].f0 l[i].f1 l[i].f2 l[i].f3 l[i].f4 hx.1 hx.2 l[i].f1.length 0 (by omega)
    refine ⟨k + 2, ?_⟩
    unfold lunetteref20_Same.l0
    rw [if_pos (by omega), if_pos (by omega), if_pos (by omega), if_pos rfl, if_pos rfl, if_pos rfl, if_pos rfl, hrd]
    unfold lunetteref20_Same.j1
    rw [if_neg (by simp)]
    exact hk
theorem same_self (l : List S29) (hl : l.length < 1099511627776) (hs : ∀ x ∈ l, x.f1.length < 1099511627776 ∧ x.f2.length < 1099511627776) : ∃ k, lunetteref20_Same.f k l l = some true := by
  obtain ⟨k, hk⟩ := same0 l hl hs l.length 0 (by omega)
  refine ⟨k, ?_⟩
  unfold lunetteref20_Same.f
  rw [if_pos rfl]
  exact hk
theorem same_good (l : List S29) (hl : l.length < 1099511627776) (hs : ∀ x ∈ l, goodL x = true) : ∃ k, lunetteref20_Same.f k l l = some true :=
  same_self l hl fun x hx => by
    obtain ⟨h1, _, h2, _⟩ := good_small (hs x hx)
    exact ⟨by omega, by omega⟩

/-! ### a row of lines behind a row of lines -/
theorem lines_joined {W w1 : World} {b : Nat} {v v1 : Value} {l m : List S29} {i1 i2 : List Value} {o1 o2 : Nat → Prop} (h1 : Reps (k29.M W b o1) 5 l i1) (ho1 : ∀ k, o1 k → some k ≠ v.ownBlock) (h2 : Reps (k29.M W b o2) 5 m i2) (ho2 : ∀ k, o2 k → some k ≠ v.ownBlock)
    (hown : w1.ownsRow b 29 5 v1 (l ++ m).length (i1 ++ i2)) (hg : W.grownBy w1 v.ownBlock) : k29.R 29 w1 b (fun _ => True) v1 (l ++ m) := by
  have step : ∀ {q : S29} {c : List Value} {o : Nat → Prop}, k29.M W b o q c → (∀ k, o k → some k ≠ v.ownBlock) → k29.M w1 b (fun k => True ∧ some k ≠ v1.ownBlock) q c := by
    intro q c o hq ho
    refine k29.M_mono (fun k hk => ⟨trivial, fun he => ?_⟩) (k29.M_move (fun k hk => hg.block k hk.2.2.1 (ho k hk.1)) (k29.M_bound hq))
    obtain ⟨c1, hc1⟩ := own_typed hown k he.symm
    obtain ⟨q', hq', c2, hc2⟩ := hk.2.2.2
    rw [hg.block k hk.2.2.1 (ho k hk.1), hc2] at hc1
    injection hc1 with hc1
    injection hc1 with _ hc1 _
    subst hc1
    exact absurd hq' (by decide)
  exact ⟨fun _ _ => trivial, i1 ++ i2, hown, Kd.reps_append (h1.imp_ fun _ _ hq => step hq ho1) (h2.imp_ fun _ _ hq => step hq ho2)⟩
end Go.Proofs.YtbdoafigggcdpaaGreatDoor.PScr
