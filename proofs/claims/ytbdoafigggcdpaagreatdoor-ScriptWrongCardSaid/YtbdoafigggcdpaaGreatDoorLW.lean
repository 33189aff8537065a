/- The walk of the law ScriptWrong: it is true. No condition of ours. -/
import Derived.Test.YtbdoafigggcdpaaGreatDoorPD
import Derived.Test.YtbdoafigggcdpaaGreatDoorF
import Derived.Carry
import Derived.Test.YtbdoafigggcdpaaGreatDoorLN
import Derived.Test.YtbdoafigggcdpaaGreatDoorMH
import Derived.Test.YtbdoafigggcdpaaGreatDoorRA
namespace Go.Proofs.YtbdoafigggcdpaaGreatDoor.PScr
open Go Go.RowKit Go.ChangeShapes Go.WideShapes Go.ChangeAt Go.Proofs.YtbdoafigggcdpaaGreatDoorW.PrintWords Go.Proofs.YtbdoafigggcdpaaGreatDoorW.PrintLast Go.Proofs.YtbdoafigggcdpaaGreatDoorW.PrintMore
set_option linter.unusedVariables false
set_option linter.unusedSimpArgs false

section
variable {H : Type} {enc : TypeId × Value → H} {W : World} {base : Nat} {sp : Nat → Bool} {held : Bool}
theorem cells29 : Tryz.prog.cellsOf 29 = 5 := by kernel_rfl
theorem cells51 : Tryz.prog.cellsOf 51 = 6 := by kernel_rfl
theorem cells49 : Tryz.prog.cellsOf 49 = 3 := by kernel_rfl
theorem cells26 : Tryz.prog.cellsOf 26 = 1 := by kernel_rfl
theorem cells27 : Tryz.prog.cellsOf 27 = 1 := by kernel_rfl
theorem len3 {cs : List Value} (h : cs.length = 3) : ∃ a b c, cs = [a, b, c] := by
  match cs, h with
  | [a, b, c], _ => exact ⟨a, b, c, rfl⟩
theorem len5 {cs : List Value} (h : cs.length = 5) : ∃ a b c d e, cs = [a, b, c, d, e] := by
  match cs, h with
  | [a, b, c, d, e], _ => exact ⟨a, b, c, d, e, rfl⟩
theorem len6 {cs : List Value} (h : cs.length = 6) : ∃ a b c d e f, cs = [a, b, c, d, e, f] := by
  match cs, h with
  | [a, b, c, d, e, f], _ => exact ⟨a, b, c, d, e, f, rfl⟩

/-- a row of elements that read -/
theorem row_of_reads {α : Type} (d : Kd α) (e : TypeId) (hsz : Tryz.prog.cellsOf e = d.sz) (good : α → Prop) (n : Nat) (elem : ∀ cs y, DataW.trod enc Tryz.prog W base sp held n e cs = some y → ∃ x, d.K W x cs ∧ good x) {a : Addr} {len : Nat} {elems : List (DataW H × List MemPlace)} (hel : elems.length = len) (hlen : len ≤ 9223372036854775807)
    (h : ∀ i, i < len → (W.cells? base (a.add (i * Tryz.prog.cellsOf e)) (Tryz.prog.cellsOf e)).bind (DataW.trod enc Tryz.prog W base sp held n e) = elems[i]?) : ∃ xs : List α, xs.length = len ∧ d.C W (some a) len xs ∧ ∀ x ∈ xs, good x := by
  have key : ∀ k, k ≤ len → ∃ xs : List α, xs.length = k ∧ (∀ x ∈ xs, good x) ∧ ∀ j p, xs[j]? = some p → ∃ c, c.length = d.sz ∧ d.K W p c ∧ ∀ i u, c[i]? = some u → W.cell? (a.add (j * d.sz + i)) = some u := by
    intro k
    induction k with
    | zero => intro _; exact ⟨[], rfl, by simp, by simp⟩
    | succ k ih =>
      intro hk
      obtain ⟨xs, h1, h2, h3⟩ := ih (by omega)
      have he := h k (by omega)
      rw [List.getElem?_eq_getElem (by omega : k < elems.length), hsz] at he
      obtain ⟨c, hc, hy⟩ := Option.bind_eq_some_iff.1 he
      obtain ⟨x, hx, hg⟩ := elem c _ hy
      obtain ⟨_, hl, hcell⟩ := World.cells?_some hc
      refine ⟨xs ++ [x], by simp [h1], ?_, ?_⟩
      · intro y hy
        rcases List.mem_append.1 hy with hy | hy
        · exact h2 y hy
        · rw [List.mem_singleton.1 hy]; exact hg
      · intro j p hp
        rcases Nat.lt_or_ge j xs.length with hj | hj
        · rw [List.getElem?_append_left hj] at hp
          exact h3 j p hp
        · have hj' : j = xs.length := by
            have := (List.getElem?_eq_some_iff.1 hp).1
            rw [List.length_append, List.length_singleton] at this
            omega
          subst hj'
          have hp' : x = p := by simpa using hp
          subst hp'
          refine ⟨c, d.K_len hx, hx, ?_⟩
          intro i u hu
          have hi : i < c.length := (List.getElem?_eq_some_iff.1 hu).1
          have e2 : a.add (xs.length * d.sz + i) = (a.add (k * d.sz)).add i := by
            rw [h1]
            unfold Addr.add
            repeat' split
            all_goals simp_all
            all_goals omega
          rw [e2]
          rw [hcell i (by rw [← hl]; exact hi)]
          exact hu
  obtain ⟨xs, h1, h2, h3⟩ := key len (Nat.le_refl _)
  exact ⟨xs, h1, ⟨h1, hlen, fun _ => ⟨a, rfl, h3⟩⟩, h2⟩

theorem one_string {n : Nat} {cs : List Value} {y : DataW H × List MemPlace} {c : Value} (hc : cs = [c]) (h : DataW.trod enc Tryz.prog W base sp held n 9 cs = some y) : ∃ s : ByteArray, c = .string s ∧ s.size < 9223372036854775808 := by
  obtain ⟨s, hs, _, hm⟩ := DataW.trod_string Tryz.underlying9 h
  subst hc
  injection hs with hs _
  exact ⟨s, hs, by unfold maxLen at hm; omega⟩
theorem open49 (n : Nat) (cs : List Value) (y : DataW H × List MemPlace) (h : DataW.trod enc Tryz.prog W base sp held n 49 cs = some y) : ∃ x : S49, k49.K W x cs ∧ (x.f0.size < 9223372036854775808 ∧ x.f1.size < 9223372036854775808 ∧ x.f2.size < 9223372036854775808) := by
  obtain ⟨xs, m, rfl, _, hl, hxl, hall⟩ := DataW.trod_struct Tryz.underlying49 h
  rw [cells49] at hl
  obtain ⟨a, b, c, rfl⟩ := len3 hl
  have hx : xs.length = 3 := hxl
  have f0 := hall 0 _ rfl
  have f1 := hall 1 _ rfl
  have f2 := hall 2 _ rfl
  rw [List.getElem?_eq_getElem (by omega)] at f0 f1 f2
  obtain ⟨s0, rfl, h0⟩ := one_string (c := a) (by show List.take (Tryz.prog.cellsOf 9) _ = _; rw [cells9]; rfl) f0
  obtain ⟨s1, rfl, h1⟩ := one_string (c := b) (by show List.take (Tryz.prog.cellsOf 9) _ = _; rw [cells9]; rfl) f1
  obtain ⟨s2, rfl, h2⟩ := one_string (c := c) (by show List.take (Tryz.prog.cellsOf 9) _ = _; rw [cells9]; rfl) f2
  exact ⟨⟨s0, s1, s2⟩, k49_mk W ⟨s0, s1, s2⟩, h0, h1, h2⟩
theorem open51 (n : Nat) (cs : List Value) (y : DataW H × List MemPlace) (h : DataW.trod enc Tryz.prog W base sp held n 51 cs = some y) : ∃ x : S51, k51.K W x cs ∧ x.short := by
  obtain ⟨xs, m, rfl, _, hl, hxl, hall⟩ := DataW.trod_struct Tryz.underlying51 h
  rw [cells51] at hl
  obtain ⟨a, b, c, d, e, f, rfl⟩ := len6 hl
  have hx : xs.length = 4 := hxl
  have f0 := hall 0 _ rfl
  have f1 := hall 1 _ rfl
  have f2 := hall 2 _ rfl
  have f3 := hall 3 _ rfl
  rw [List.getElem?_eq_getElem (by omega)] at f0 f1 f2 f3
  obtain ⟨s0, rfl, h0⟩ := one_string (c := a) (by show List.take (Tryz.prog.cellsOf 9) _ = _; rw [cells9]; rfl) f0
  obtain ⟨s1, rfl, h1⟩ := one_string (c := b) (by show List.take (Tryz.prog.cellsOf 9) _ = _; rw [cells9]; rfl) f1
  obtain ⟨s2, rfl, h2⟩ := one_string (c := c) (by show List.take (Tryz.prog.cellsOf 9) _ = _; rw [cells9]; rfl) f2
  obtain ⟨x3, hk, hs⟩ := open49 _ _ _ f3
  have ho := k49_open hk
  have ho' : [d, e, f] = [.string x3.f0, .string x3.f1, .string x3.f2] := by
    rw [← ho]
    show [d, e, f] = List.take (Tryz.prog.cellsOf 49) (List.drop 3 _)
    rw [cells49]
    rfl
  injection ho' with e1 ho'
  injection ho' with e2 ho'
  injection ho' with e3 _
  subst e1 e2 e3
  exact ⟨⟨s0, s1, s2, x3⟩, k51_mk W ⟨s0, s1, s2, x3⟩, h0, h1, h2, hs.1, hs.2.1, hs.2.2⟩
/-- a slice of numbers -/
theorem open26 (n : Nat) (cs : List Value) (y : DataW H × List MemPlace) (h : DataW.trod enc Tryz.prog W base sp held n 26 cs = some y) : ∃ (A : Option Addr) (c : Nat) (xs : List Int), cs = [.slice A xs.length c] ∧ xs.length ≤ c ∧ (Kd.int .i64).C W A xs.length xs ∧ xs.length < 9223372036854775808 := by
  rcases DataW.trod_slice Tryz.underlying26 h with ⟨rfl, _⟩ | ⟨a, len, cap, elems, rest, m, rfl, rfl, _, _, h1, h2, h3, h4, _, _⟩
  · exact ⟨none, 0, [], rfl, Nat.le_refl _, ⟨rfl, by simp, fun h => by simp at h⟩, by simp⟩
  · have hm : cap < 9223372036854775808 := by unfold maxLen at h2; omega
    obtain ⟨xs, e1, e2, _⟩ := row_of_reads (Kd.int .i64) 3 cells3 (fun _ => True) m (fun cs y hy => by
      obtain ⟨z, rfl, _, _⟩ := DataW.trod_int Tryz.underlying3 hy
      exact ⟨z, rfl, trivial⟩) h3 (by omega) h4
    subst e1
    exact ⟨some a, cap, xs, rfl, h1, e2, by omega⟩
/-- a slice of tuples -/
theorem open27 (n : Nat) (cs : List Value) (y : DataW H × List MemPlace) (h : DataW.trod enc Tryz.prog W base sp held n 27 cs = some y) : ∃ (A : Option Addr) (c : Nat) (xs : List S51), cs = [.slice A xs.length c] ∧ xs.length ≤ c ∧ k51.C W A xs.length xs ∧ xs.length < 9223372036854775808 ∧ ∀ t ∈ xs, t.short := by
  rcases DataW.trod_slice Tryz.underlying27 h with ⟨rfl, _⟩ | ⟨a, len, cap, elems, rest, m, rfl, rfl, _, _, h1, h2, h3, h4, _, _⟩
  · exact ⟨none, 0, [], rfl, Nat.le_refl _, ⟨rfl, by simp, fun h => by simp at h⟩, by simp, by simp⟩
  · have hm : cap < 9223372036854775808 := by unfold maxLen at h2; omega
    obtain ⟨xs, e1, e2, e3⟩ := row_of_reads k51 51 cells51 S51.short m (fun cs y hy => open51 m cs y hy) h3 (by omega) h4
    subst e1
    exact ⟨some a, cap, xs, rfl, h1, e2, by omega, e3⟩
/-- a line whose parts are such as can come in -/
def S29.mid (x : S29) : Prop := (x.f1.length < 9223372036854775808 ∧ x.f2.length < 9223372036854775808 ∧ x.f3.size < 9223372036854775808 ∧ x.f4.size < 9223372036854775808 ∧ x.f0.size < 9223372036854775808) ∧ ∀ t ∈ x.f2, t.short
theorem one_of {P : List Value → Prop} {cs : List Value} {v c : Value} (h : cs = [v]) (hc : cs = [c]) : c = v := by
  rw [hc] at h
  injection h
theorem open29 (n : Nat) (cs : List Value) (y : DataW H × List MemPlace) (h : DataW.trod enc Tryz.prog W base sp held n 29 cs = some y) : ∃ x : S29, k29.K W x cs ∧ x.mid := by
  obtain ⟨xs, m, rfl, _, hl, hxl, hall⟩ := DataW.trod_struct Tryz.underlying29 h
  rw [cells29] at hl
  obtain ⟨a, b, c, d, e, rfl⟩ := len5 hl
  have hx : xs.length = 5 := hxl
  have f0 := hall 0 _ rfl
  have f1 := hall 1 _ rfl
  have f2 := hall 2 _ rfl
  have f3 := hall 3 _ rfl
  have f4 := hall 4 _ rfl
  rw [List.getElem?_eq_getElem (by omega)] at f0 f1 f2 f3 f4
  obtain ⟨s0, rfl, h0⟩ := one_string (c := a) (by show List.take (Tryz.prog.cellsOf 9) _ = _; rw [cells9]; rfl) f0
  obtain ⟨s3, rfl, h3⟩ := one_string (c := d) (by show List.take (Tryz.prog.cellsOf 9) _ = _; rw [cells9]; rfl) f3
  obtain ⟨s4, rfl, h4⟩ := one_string (c := e) (by show List.take (Tryz.prog.cellsOf 9) _ = _; rw [cells9]; rfl) f4
  obtain ⟨A1, c1, ns, hb, l1, g1, z1⟩ := open26 _ _ _ f1
  obtain ⟨A2, c2, ts, hc, l2, g2, z2, z3⟩ := open27 _ _ _ f2
  have hb' : b = .slice A1 ns.length c1 := one_of (P := fun _ => True) hb (by show List.take (Tryz.prog.cellsOf 26) (List.drop 1 _) = _; rw [cells26]; rfl)
  have hc' : c = .slice A2 ts.length c2 := one_of (P := fun _ => True) hc (by show List.take (Tryz.prog.cellsOf 27) (List.drop 2 _) = _; rw [cells27]; rfl)
  subst hb' hc'
  exact ⟨⟨s0, ns, ts, s3, s4⟩, k29_mk W ⟨s0, ns, ts, s3, s4⟩ l1 g1 l2 g2, ⟨z1, z2, h3, h4, h0⟩, z3⟩
/-- LINES THAT COME IN -/
theorem open_lines {v : Value} {d : DataW H} {ps : List MemPlace} (h : DataW.Trod enc Tryz.prog W base sp held 22 v d ps) (hv : ∃ A n c, v = .slice A n c) : ∃ (A : Option Addr) (c : Nat) (l : List S29), v = .slice A l.length c ∧ l.length ≤ c ∧ Kd.C k29 W A l.length l ∧ l.length < 9223372036854775808 ∧ (∀ x ∈ l, x.mid) ∧ (l = [] ∨ ∃ es rs, d = .slice es rs ∧ es.length = l.length) := by
  obtain ⟨n, hn⟩ := h
  obtain ⟨A, k, c, rfl⟩ := hv
  rcases DataW.trod_slice Tryz.underlying22 hn with ⟨hc, _⟩ | ⟨a, len, cap, elems, rest, m, rfl, hc, hd, _, h1, h2, h3, h4, _, _⟩
  · have hc' : [Value.slice A k c] = [.slice none 0 0] := hc
    injection hc' with hc' _
    injection hc' with e1 e2 e3
    subst e1 e2 e3
    exact ⟨none, 0, [], rfl, Nat.le_refl _, ⟨rfl, by simp, fun h => by simp at h⟩, by simp, by simp, .inl rfl⟩
  · have hc' : [Value.slice A k c] = [.slice (some a) len cap] := hc
    injection hc' with hc' _
    injection hc' with e1 e2 e3
    subst e1 e2 e3
    have hm : c < 9223372036854775808 := by unfold maxLen at h2; omega
    obtain ⟨xs, e1, e2, e3⟩ := row_of_reads k29 29 cells29 S29.mid m (fun cs y hy => open29 m cs y hy) h3 (by omega) h4
    subst e1
    exact ⟨some a, c, xs, rfl, h1, e2, by omega, e3, .inr ⟨_, _, congrArg Prod.fst hd, by rw [List.length_map]; exact h3⟩⟩
end
end Go.Proofs.YtbdoafigggcdpaaGreatDoor.PScr
namespace Go.Proofs.YtbdoafigggcdpaaGreatDoor.PScr
open Go.RowKit Go.Proofs.YtbdoafigggcdpaaGreatDoorW.PrintWords Go.Proofs.YtbdoafigggcdpaaGreatDoorW.PrintLast Go.Proofs.YtbdoafigggcdpaaGreatDoorW.PrintMore
set_option linter.unusedVariables false
set_option linter.unusedSimpArgs false

/-! ### few lines -/
def Little (x : S29) : Prop := x.f1.length ≤ 20 ∧ x.f2.length ≤ 20 ∧ x.f4.size ≤ 300 ∧ x.f0.size ≤ 100 ∧ x.f3.size ≤ 100
theorem few2 (Q : Prop) (l : List S29) (i j : Int) (p : List ByteArray) (hp : p.length = 6) (h : ∃ k r, lunetteref20_Few.l1 k l i (wrap64 (j + 1)) = some r ∧ (r = true → Q)) : ∀ (d m : Nat), m + d = p.length → ∃ k r, lunetteref20_Few.l2 k l i j p (m : Int) = some r ∧ (r = true → Q)
  | 0, m, hm => by
    obtain ⟨k, r, h1, h2⟩ := h
    refine ⟨k + 1, r, ?_, h2⟩
    unfold lunetteref20_Few.l2
    rw [if_neg (by omega)]
    exact h1
  | d + 1, m, hm => by
    obtain ⟨k, r, h1, h2⟩ := few2 Q l i j p hp h d (m + 1) (by omega)
    by_cases hc : ((rdOf ByteArray.empty p (m : Int)).size : Int) > 100
    · refine ⟨k + 1, false, ?_, fun h => by cases h⟩
      unfold lunetteref20_Few.l2
      rw [if_pos (by omega), if_pos (by omega), if_pos hc]
    · refine ⟨k + 1, r, ?_, h2⟩
      unfold lunetteref20_Few.l2
      rw [if_pos (by omega), if_pos (by omega), if_neg hc, wrap_up m (by omega)]
      exact h1
theorem few1 (Q : Prop) (l : List S29) (i : Nat) (hi : i < l.length) (ht : (rd_T29 l (i : Int)).f2.length < 9223372036854775808) (h : ∃ k r, lunetteref20_Few.l0 k l (wrap64 ((i : Int) + 1)) = some r ∧ (r = true → Q)) : ∀ (d j : Nat), j + d = (rd_T29 l (i : Int)).f2.length → ∃ k r, lunetteref20_Few.l1 k l (i : Int) (j : Int) = some r ∧ (r = true → Q)
  | 0, j, hj => by
    obtain ⟨k, r, h1, h2⟩ := h
    refine ⟨k + 1, r, ?_, h2⟩
    unfold lunetteref20_Few.l1
    rw [if_pos (by omega), if_pos (by omega), if_neg (by omega)]
    exact h1
  | d + 1, j, hj => by
    have ih := few1 Q l i hi ht h d (j + 1) (by omega)
    have hw : wrap64 ((j : Int) + 1) = ((j + 1 : Nat) : Int) := by unfold wrap64; omega
    rw [← hw] at ih
    obtain ⟨k, r, h1, h2⟩ := few2 Q l (i : Int) (j : Int) [_, _, _, _, _, _] rfl ih 6 0 rfl
    refine ⟨k + 1, r, ?_, h2⟩
    unfold lunetteref20_Few.l1
    rw [if_pos (by omega), if_pos (by omega), if_pos (by omega), if_pos (by omega)]
    unfold lunetteref11_Parts.f
    rw [Option.bind_some]
    exact h1
theorem few0 (l : List S29) (hl : l.length < 9223372036854775808) (ht : ∀ x ∈ l, x.f2.length < 9223372036854775808) : ∀ (d i : Nat), i + d = l.length → ∃ k r, lunetteref20_Few.l0 k l (i : Int) = some r ∧ (r = true → ∀ x ∈ l.drop i, Little x)
  | 0, i, hi => by
    refine ⟨1, true, ?_, fun _ x hx => ?_⟩
    · unfold lunetteref20_Few.l0
      rw [if_neg (by omega)]
    · rw [List.drop_of_length_le (by omega)] at hx
      simp at hx
  | d + 1, i, hi => by
    have hlt : i < l.length := by omega
    have ih := few0 l hl ht d (i + 1) (by omega)
    have hw : wrap64 ((i : Int) + 1) = ((i + 1 : Nat) : Int) := by unfold wrap64; omega
    rw [← hw] at ih
    have hrd := rd_T29_at l i hlt
    obtain ⟨k, r, h1, h2⟩ := few1 _ l i hlt (by rw [hrd]; exact ht _ (List.getElem_mem hlt)) ih (rd_T29 l (i : Int)).f2.length 0 (by omega)
    have hd : l.drop i = l[i] :: l.drop (i + 1) := List.drop_eq_getElem_cons hlt
    have hno : ∀ k, lunetteref20_Few.j1 (k + 1) l (i : Int) true = some false := fun k => by rw [lunetteref20_Few.j1]; rfl
    have hyes : lunetteref20_Few.j1 (k + 1) l (i : Int) false = some r := by rw [lunetteref20_Few.j1]; exact h1
    rw [← hrd] at hd
    obtain ⟨x, hx⟩ : ∃ x, rd_T29 l (i : Int) = x := ⟨_, rfl⟩
    rw [hx] at hd
    by_cases c1 : (x.f1.length : Int) > 20
    · refine ⟨k + 2, false, ?_, fun h => by cases h⟩
      unfold lunetteref20_Few.l0
      rw [if_pos (by omega), if_pos (by omega), hx, if_pos c1, hno]
    by_cases c2 : (x.f2.length : Int) > 20
    · refine ⟨k + 2, false, ?_, fun h => by cases h⟩
      unfold lunetteref20_Few.l0
      rw [if_pos (by omega), if_pos (by omega), hx, if_neg c1, if_pos c2, hno]
    by_cases c3 : (x.f4.size : Int) > 300
    · refine ⟨k + 2, false, ?_, fun h => by cases h⟩
      unfold lunetteref20_Few.l0
      rw [if_pos (by omega), if_pos (by omega), hx, if_neg c1, if_neg c2, if_pos c3, hno]
    by_cases c4 : (x.f0.size : Int) > 100
    · refine ⟨k + 2, false, ?_, fun h => by cases h⟩
      unfold lunetteref20_Few.l0
      rw [if_pos (by omega), if_pos (by omega), hx, if_neg c1, if_neg c2, if_neg c3, if_pos c4, hno]
    by_cases c5 : (x.f3.size : Int) > 100
    · refine ⟨k + 2, false, ?_, fun h => by cases h⟩
      unfold lunetteref20_Few.l0
      rw [if_pos (by omega), if_pos (by omega), hx, if_neg c1, if_neg c2, if_neg c3, if_neg c4, decide_eq_true c5, hno]
    · refine ⟨k + 2, r, ?_, fun h y hy => ?_⟩
      · unfold lunetteref20_Few.l0
        rw [if_pos (by omega), if_pos (by omega), hx, if_neg c1, if_neg c2, if_neg c3, if_neg c4, decide_eq_false c5, hyes]
      · rw [hd] at hy
        rcases List.mem_cons.1 hy with rfl | hy
        · exact ⟨by omega, by omega, by omega, by omega, by omega⟩
        · exact h2 h y hy
theorem few_ex (l : List S29) (hl : l.length < 9223372036854775808) (ht : ∀ x ∈ l, x.f2.length < 9223372036854775808) : ∃ k r, lunetteref20_Few.f k l = some r ∧ (r = true → l.length ≤ 60 ∧ ∀ x ∈ l, Little x) := by
  by_cases c : (l.length : Int) > 60
  · refine ⟨1, false, ?_, fun h => by cases h⟩
    unfold lunetteref20_Few.f
    rw [if_pos c]
  · obtain ⟨k, r, h1, h2⟩ := few0 l hl ht l.length 0 (by omega)
    refine ⟨k, r, ?_, fun h => ⟨by omega, ?_⟩⟩
    · unfold lunetteref20_Few.f
      rw [if_neg c]
      exact h1
    · have := h2 h
      rwa [List.drop_zero] at this

/-! ### among right lines the wrong one is told -/
theorem split_line : ∀ (a c b d : List UInt8), a ++ 10 :: b = c ++ 10 :: d → (10 : UInt8) ∉ a → (10 : UInt8) ∉ c → a = c ∧ b = d
  | [], [], b, d, h, _, _ => by
    simp only [List.nil_append, List.cons.injEq, true_and] at h
    exact ⟨rfl, h⟩
  | [], y :: c, b, d, h, _, hc => by
    simp only [List.nil_append, List.cons_append, List.cons.injEq] at h
    exact absurd (List.mem_cons_self ..) (h.1 ▸ hc)
  | x :: a, [], b, d, h, ha, _ => by
    simp only [List.nil_append, List.cons_append, List.cons.injEq] at h
    exact absurd (List.mem_cons_self ..) (h.1.symm ▸ ha)
  | x :: a, y :: c, b, d, h, ha, hc => by
    simp only [List.cons_append, List.cons.injEq] at h
    obtain ⟨h1, h2⟩ := split_line a c b d h.2 (fun hm => ha (List.mem_cons_of_mem _ hm)) (fun hm => hc (List.mem_cons_of_mem _ hm))
    exact ⟨by rw [h.1, h1], h2⟩
theorem line_list (bad s : ByteArray) : (bad ++ nlb ++ s).data.toList = bad.data.toList ++ 10 :: s.data.toList := by
  unfold nlb
  simp [ByteArray.data_append]
theorem bad_cut (bad s : ByteArray) (hb : (10 : UInt8) ∉ bad.data.toList) : cut1 (bad ++ nlb ++ s) nlb = bad ∧ cut2 (bad ++ nlb ++ s) nlb = s := by
  obtain ⟨e1, e2⟩ := cut1_mid (bad ++ nlb ++ s) _ 10 _ (line_list bad s) hb
  exact ⟨e1.trans (mk_eq _), e2.trans (mk_eq _)⟩
theorem nil_right (s : ByteArray) : s ++ (⟨#[]⟩ : ByteArray) = s := ba_ext (by rw [ByteArray.data_append]; simp)
theorem bad_line (bad s : ByteArray) (hb : (10 : UInt8) ∉ bad.data.toList) (h : lineGood (bad ++ nlb) = false) : lineGood (bad ++ nlb ++ s) = false := by
  rw [Bool.eq_false_iff] at h ⊢
  intro hg
  refine h ?_
  obtain ⟨c1, c2⟩ := bad_cut bad s hb
  obtain ⟨d1, d2⟩ := bad_cut bad ⟨#[]⟩ hb
  rw [nil_right] at d1
  have hgood : goodL (lineOf bad) = true := by
    unfold lineGood at hg
    rw [Bool.and_eq_true, c1] at hg
    exact hg.1
  obtain ⟨_, h3⟩ := line_back _ hgood
  unfold lineGood at hg ⊢
  rw [c1] at hg
  rw [d1]
  rw [Bool.and_eq_true] at hg ⊢
  refine ⟨hg.1, ?_⟩
  obtain ⟨r, hr⟩ := List.isPrefixOf_iff_prefix.1 hg.2
  have hl := textLn_list (lineOf bad) ⟨r.toArray⟩
  rw [ByteArray.data_append, Array.toList_append, mk_toList] at hl
  rw [hl, line_list] at hr
  obtain ⟨e1, _⟩ := split_line _ _ _ _ hr h3 hb
  refine List.isPrefixOf_iff_prefix.2 ?_
  have e2 : (textLn (lineOf bad)).data.toList = (bad ++ nlb).data.toList := by
    rw [textLn_J, ByteArray.data_append, ByteArray.data_append, Array.toList_append, Array.toList_append, e1]
  rw [e2]
  exact List.prefix_refl _
theorem nl_pos (bad s : ByteArray) : (bad ++ nlb ++ s).size ≠ 0 := by
  have e : nlb.size = 1 := rfl
  rw [ByteArray.size_append, ByteArray.size_append, e]
  omega
theorem read_one_bad (bad : ByteArray) (hb : (10 : UInt8) ∉ bad.data.toList) (h : (readAll (bad ++ nlb)).2.2 = false) : lineGood (bad ++ nlb) = false := by
  rw [Bool.eq_false_iff]
  intro hg
  obtain ⟨d1, d2⟩ := bad_cut bad ⟨#[]⟩ hb
  rw [nil_right] at d1 d2
  unfold readAll at h
  have hp := good_pos _ hg
  obtain ⟨f, hf⟩ : ∃ f, (bad ++ nlb).size = f + 1 := ⟨(bad ++ nlb).size - 1, by omega⟩
  have e0 : (⟨#[]⟩ : ByteArray).size = 0 := rfl
  rw [readGo, if_neg hp, if_pos hg, d2, hf, readGo, if_pos e0] at h
  cases h
theorem read_wrong (l : List S29) (hl : ∀ x ∈ l, goodL x = true) (bad s : ByteArray) (hb : (10 : UInt8) ∉ bad.data.toList) (h : (readAll (bad ++ nlb)).2.2 = false) : readAll (textAll l ++ bad ++ nlb ++ s) = ([], 1 + l.length, false) := by
  have e : textAll l ++ bad ++ nlb ++ s = textAll l ++ (bad ++ nlb ++ s) := by simp only [ba_assoc]
  rw [e]
  unfold readAll
  rw [readGo_text l (bad ++ nlb ++ s) [] 1 _ ((bad ++ nlb ++ s).size + 1) hl (Nat.lt_succ_self _) (Nat.lt_succ_self _)]
  rw [readGo, if_neg (nl_pos bad s), if_neg (by rw [bad_line bad s hb (read_one_bad bad hb h)]; decide)]

set_option maxRecDepth 100000 in
set_option maxHeartbeats 4000000 in
theorem wrong_any (w0 : World) (F : Facts w0) (A : Option Addr) (c : Nat) (l : List S29) (hl : l.length ≤ 140737488355328) (hc : l.length ≤ c) (hm : ∀ x ∈ l, x.mid) (bad : ByteArray) (w : World) (hB0 : Below w0.heap.size w0 w) (hE : EntsIn w) (hr : Kd.C k29 w A l.length l) :
    Calls Tryz.prog 7 #[.slice A l.length c, .string bad] w fun e w' => e = .returned (.bool true) ∧ Below w.heap.size w w' := by
  have hu29 := Tryz.underlying29
  have hu22 := Tryz.underlying22
  obtain ⟨kf, rf, hf, hft⟩ := few_ex l (by omega) (fun x hx => (hm x hx).1.2.1)
  have hsw := refShow_any A c l hl (fun x hx => ⟨⟨(hm x hx).1.1, (hm x hx).1.2.1, (hm x hx).1.2.2.1, (hm x hx).1.2.2.2.1⟩, (hm x hx).2⟩) w hr
  have HF := Aside0.mk hf; clear hf
  have HB0 := Aside0.mk hB0; clear hB0
  have HE := Aside0.mk hE; clear hE
  have HR := Aside0.mk hr; clear hr
  have next : ∀ {w1 : World}, Below w.heap.size w w1 → Below w0.heap.size w0 w1 := fun h => below_weaken HB0.out HB0.out.size h
  have HN := Aside0.mk @next; clear next
  have haw : ∀ w1, Below w.heap.size w w1 → Calls Tryz.prog 8 #[] w1 fun e w' => e = .returned (.bool true) ∧ Below w1.heap.size w1 w' := fun w1 hb => awake_any w0 F w1 (HN.out hb) (HE.out.below hb)
  have HAW := Aside0.mk haw; clear haw
  have hrun : ∀ (s : ByteArray) (l : List S29) (n : Nat) (o : Bool), s.size ≤ 900000 → readAll s = (l, n, o) → ∀ w1, Below w.heap.size w w1 → Calls Tryz.prog 14 #[.string s] w1 fun e w' => (∃ v c, e = .returned (.tuple #[v, .int .i64 n, .int .i64 c]) ∧ c = (if o then 0 else 200) ∧ k29.R 29 w' w1.heap.size (fun _ => True) v l) ∧ Below w1.heap.size w1 w' := by
    intro s l n o hs hr w1 hb1
    refine (read_any w0 F s hs w1 (HN.out hb1) (HE.out.below hb1) _ hr).mono ?_
    rintro e w' ⟨⟨v, rfl, hrow⟩, hb⟩
    exact ⟨⟨v, _, rfl, rfl, hrow⟩, hb⟩
  have HRUN := Aside0.mk hrun; clear hrun
  obtain ⟨al, hal⟩ : ∃ b, l.all goodL = b := ⟨_, rfl⟩
  rw [hal] at hsw
  have HSW := Aside0.mk hsw; clear hsw
  have HAL := Aside0.mk hal; clear hal
  have HM := Aside0.mk hm; clear hm
  have HFT := Aside0.mk hft; clear hft
  go_enter Tryz.func7, Tryz.ntmps7
  go_wp2_with fail
  refine HSW.out.mono ?_
  rintro e w1 ⟨rfl, hb⟩
  have HB1 := Aside0.mk hb; clear hb
  go_wp2_with fail
  refine (HAW.out w1 HB1.out).mono ?_
  rintro e w2 ⟨rfl, hb⟩
  have HB2 := Aside0.mk (below_step HB1.out hb); clear hb
  go_wp2_with fail
  refine (lunetteref20_Few.calls kf A c l rf w2 (Kd.C_below HR.out HB2.out) hc HF.out).mono ?_
  rintro e w3 ⟨rfl, hb⟩
  have HB3 := Aside0.mk (below_step HB2.out hb); clear hb
  have HAW3 := Aside0.mk (HAW.out w3 HB3.out)
  cases rf with
  | false =>
    go_wp2_with (first | (go_at_call 8; refine HAW3.out.mono ?_; rintro e w4 ⟨rfl, hb⟩; have HB4 := Aside0.mk (below_step HB3.out hb); clear hb))
    go_ret
    exact ⟨rfl, HB4.out⟩
  | true =>
    cases al with
    | false =>
      go_wp2_with (first | (go_at_call 8; refine HAW3.out.mono ?_; rintro e w4 ⟨rfl, hb⟩; have HB4 := Aside0.mk (below_step HB3.out hb); clear hb))
      go_ret
      exact ⟨rfl, HB4.out⟩
    | true =>
      by_cases hbz : 300 < bad.size
      · have q1 : (300 : Int) < (bad.size : Int) := by omega
        go_wp2_with (first | (go_at_call 8; refine HAW3.out.mono ?_; rintro e w4 ⟨rfl, hb⟩; have HB4 := Aside0.mk (below_step HB3.out hb); clear hb))
        go_ret
        exact ⟨rfl, HB4.out⟩
      have q1 : ¬ (300 : Int) < (bad.size : Int) := by omega
      obtain ⟨hl60, _⟩ := HFT.out rfl
      have hgd : ∀ x ∈ l, goodL x = true := List.all_eq_true.1 HAL.out
      have hST : showT l = textAll l := by unfold showT; rw [HAL.out, if_pos rfl]
      have hSz := textAll_size2 l hgd
      rw [hST]
      obtain ⟨S, hS⟩ : ∃ S, textAll l = S := ⟨_, rfl⟩
      rw [hS]
      rw [hS] at hSz
      have HS := Aside0.mk hS; have HGD := Aside0.mk hgd
      clear hS hgd hST
      have hS4 : S.size ≤ 420000 := by
        have : l.length * 7000 ≤ 60 * 7000 := Nat.mul_le_mul_right _ hl60
        omega
      clear hSz
      go_upto_region 5 with fail
      go_loopw [7] (fun i wx => ∃ k : Nat, k ≤ bad.size ∧ i = .int .i64 k ∧ Aside0 (∀ j, j < k → bad.get! j ≠ 10) ∧ Aside0 (Below w.heap.size w wx)) (fun i _ => bad.size - (intOf i).toNat)
      case atStart => exact ⟨0, by omega, rfl, ⟨fun j hj => by omega⟩, HB3⟩
      case round =>
        clear HB3 HAW3
        obtain ⟨k, hk, rfl, HNO, HB3⟩ := hrel
        by_cases hlt : k < bad.size
        · have hgg := get_get bad k hlt
          obtain ⟨ch, hch⟩ : ∃ ch : UInt8, bad[k]'hlt = ch := ⟨_, rfl⟩
          rw [hch] at hgg
          have q2 : (k : Int) < (bad.size : Int) := by omega
          by_cases hc10 : ch.toNat = 10
          · have s1 : ((ch.toNat : Int) == 10) = true := by simp [hc10]
            clear hgg
            go_wp2
            go_ret
            exact ⟨rfl, HB3.out⟩
          · have s1 : ((ch.toNat : Int) == 10) = false := by rw [beq_eq_false_iff_ne]; omega
            have hn10 : bad.get! k ≠ 10 := fun h => hc10 (by rw [← hgg, h]; rfl)
            have HG := Aside0.mk hn10; clear hn10 hgg
            go_wp2
            exact ⟨⟨k + 1, by omega, by go_num, ⟨fun j hj => by
              by_cases hjk : j = k
              · rw [hjk]; exact HG.out
              · exact HNO.out j (by omega)⟩, HB3⟩, by simp [intOf]; omega⟩
        · obtain rfl : k = bad.size := by omega
          have hno : (10 : UInt8) ∉ bad.data.toList := fun hmem => by
            obtain ⟨i, hi, he⟩ := mem_get hmem
            exact HNO.out i hi he
          have HNO2 := Aside0.mk hno; clear hno
          obtain ⟨lx, nx, ox, hrx⟩ : ∃ l n o, readAll (bad ++ nlb) = (l, n, o) := ⟨_, _, _, rfl⟩
          have hnl : nlb.size = 1 := rfl
          have hsz1 : (bad ++ nlb).size ≤ 301 := by rw [ByteArray.size_append, hnl]; omega
          have q10 : (⟨#[10]⟩ : ByteArray).size = 1 := rfl
          have q4 : (9223372036854775807 < bad.size + (⟨#[10]⟩ : ByteArray).size) = False := eq_false (by rw [q10]; omega)
          have q5 : (9223372036854775807 < bad.size + 1) = False := eq_false (by omega)
          have HRX := Aside0.mk hrx; clear hrx
          clear hnl q10
          go_wp2_with fail
          refine (HRUN.out (bad ++ nlb) lx nx ox (by omega) HRX.out wr HB3.out).mono ?_
          rintro e w4 ⟨⟨v1, cx, rfl, hcx, _⟩, hb⟩
          have HB4 := Aside0.mk (below_step HB3.out hb); clear hb
          cases ox with
          | true =>
            obtain rfl : cx = 0 := hcx
            go_wp2
            go_ret
            exact ⟨rfl, HB4.out⟩
          | false =>
            obtain rfl : cx = 200 := hcx
            have hrw := read_wrong l HGD.out bad S HNO2.out (by rw [HRX.out])
            rw [HS.out] at hrw
            have q10 : (⟨#[10]⟩ : ByteArray).size = 1 := rfl
            have z1 : (S ++ bad).size = S.size + bad.size := by rw [ByteArray.size_append]
            have z2 : (S ++ bad ++ (⟨#[10]⟩ : ByteArray)).size = S.size + bad.size + 1 := by rw [ByteArray.size_append, z1, q10]
            have z3 : (S ++ bad ++ nlb ++ S).size ≤ 900000 := by
              have : (S ++ bad ++ nlb ++ S).size = S.size + bad.size + 1 + S.size := by rw [ByteArray.size_append]; exact congrArg (· + S.size) z2
              omega
            have q6 : (9223372036854775807 < S.size + bad.size) = False := eq_false (by omega)
            have q7 : (9223372036854775807 < (S ++ bad).size + (⟨#[10]⟩ : ByteArray).size) = False := eq_false (by rw [z1, q10]; omega)
            have q8 : (9223372036854775807 < (S ++ bad ++ (⟨#[10]⟩ : ByteArray)).size + S.size) = False := eq_false (by rw [z2]; omega)
            have q9 : (9223372036854775807 < S.size + bad.size + 1) = False := eq_false (by omega)
            have qa : (9223372036854775807 < S.size + bad.size + 1 + S.size) = False := eq_false (by omega)
            have HRW := Aside0.mk hrw; clear hrw z1 z2 q10
            have hrun2 := HRUN.out (S ++ bad ++ nlb ++ S) [] (1 + l.length) false z3 HRW.out w4 HB4.out
            clear z3
            go_wp2_with fail
            refine hrun2.mono ?_
            clear hrun2
            rintro e w5 ⟨⟨v2, cy, rfl, hcy, hrow⟩, hb⟩
            obtain rfl : cy = 200 := hcy
            obtain ⟨A5, c5, rfl⟩ := Kd.R_slice hrow
            have HB5 := Aside0.mk (below_step HB4.out hb); clear hb hrow
            have qb : wrap64 ((l.length : Int) + 1) = ((1 + l.length : Nat) : Int) := by unfold wrap64; omega
            have e9 : ((1 + l.length : Nat) : Int) = (l.length : Int) + 1 := by omega
            rw [e9]
            go_wp2
            go_ret
            exact ⟨rfl, HB5.out⟩
end Go.Proofs.YtbdoafigggcdpaaGreatDoor.PScr
