/- Lines that come in: what their reading gives the walks. No condition of ours. -/
import Derived.Test.YtbdoafigggcdpaaGreatDoorVPD
import Derived.Test.YtbdoafigggcdpaaGreatDoorVF
import Derived.Carry
namespace Go.Proofs.YtbdoafigggcdpaaGreatDoor.PScr
open Go Go.RowKit Go.ChangeShapes Go.WideShapes Go.ChangeAt Go.Proofs.YtbdoafigggcdpaaGreatDoorW.PrintWords Go.Proofs.YtbdoafigggcdpaaGreatDoorW.PrintLast Go.Proofs.YtbdoafigggcdpaaGreatDoorW.PrintMore
set_option linter.unusedVariables false
set_option linter.unusedSimpArgs false

section
variable {H : Type} {enc : TypeId × Value → H} {W : World} {base : Nat} {sp : Nat → Bool} {held : Bool}
theorem cells51 : Tryz.prog.cellsOf 51 = 6 := by kernel_rfl
theorem cells49 : Tryz.prog.cellsOf 49 = 3 := by kernel_rfl
theorem cells26 : Tryz.prog.cellsOf 26 = 1 := by kernel_rfl
theorem cells27 : Tryz.prog.cellsOf 27 = 1 := by kernel_rfl
theorem len3 {cs : List Value} (h : cs.length = 3) : ∃ a b c, cs = [a, b, c] := by
  match cs, h with
  | [a, b, c], _ => exact ⟨a, b, c, rfl⟩
theorem len6 {cs : List Value} (h : cs.length = 6) : ∃ a b c d e f, cs = [a, b, c, d, e, f] := by
  match cs, h with
  | [a, b, c, d, e, f], _ => exact ⟨a, b, c, d, e, f, rfl⟩

/-- a row of elements that read -/
theorem row_of_reads {α : Type} (d : Kd α) (e : TypeId) (hsz : Tryz.prog.cellsOf e = d.sz) (good : α → Prop) (n : Nat) (elem : ∀ cs y, DataW.trod enc Tryz.prog W base sp held n e cs = some y → ∃ x, d.K W x cs ∧ good x) {a : Addr} {len : Nat} {elems : List (DataW H × List MemPlace)} (hel : elems.length = len) (hlen : len ≤ 9223372036854775807)
    (h : ∀ i, i < len → (W.cells? base (a.add (i * Tryz.prog.cellsOf e)) (Tryz.prog.cellsOf e)).bind (DataW.trod enc Tryz.prog W base sp held n e) = elems[i]?) : ∃ xs : List α, xs.length = len ∧ d.C W (some a) len xs ∧ ∀ x ∈ xs, good x := by
  have key : ∀ k, k ≤ len → ∃ xs : List α, xs.length = k ∧ (∀ x ∈ xs, good x) ∧ ∀ j p, xs[j]? = some p → ∃ c, c.length = d.sz ∧ d.K W p c ∧ ∀ i u, c[i]? = some u → W.cell? (a.add (j * d.sz + i)) = some u := by
    intro k
    induction k with
    | zero => intro _; exact ⟨[], rfl, by simp, by simp⟩
    | succ k ih =>
      intro hk
      obtain ⟨xs, h1, h2, h3⟩ := ih (by omega)
      have he := h k (by omega)
      rw [List.getElem?_eq_getElem (by omega : k < elems.length), hsz] at he
      obtain ⟨c, hc, hy⟩ := Option.bind_eq_some_iff.1 he
      obtain ⟨x, hx, hg⟩ := elem c _ hy
      obtain ⟨_, hl, hcell⟩ := World.cells?_some hc
      refine ⟨xs ++ [x], by simp [h1], ?_, ?_⟩
      · intro y hy
        rcases List.mem_append.1 hy with hy | hy
        · exact h2 y hy
        · rw [List.mem_singleton.1 hy]; exact hg
      · intro j p hp
        rcases Nat.lt_or_ge j xs.length with hj | hj
        · rw [List.getElem?_append_left hj] at hp
          exact h3 j p hp
        · have hj' : j = xs.length := by
            have := (List.getElem?_eq_some_iff.1 hp).1
            rw [List.length_append, List.length_singleton] at this
            omega
          subst hj'
          have hp' : x = p := by simpa using hp
          subst hp'
          refine ⟨c, d.K_len hx, hx, ?_⟩
          intro i u hu
          have hi : i < c.length := (List.getElem?_eq_some_iff.1 hu).1
          have e2 : a.add (xs.length * d.sz + i) = (a.add (k * d.sz)).add i := by
            rw [h1]
            unfold Addr.add
            repeat' split
            all_goals simp_all
            all_goals omega
          rw [e2]
          rw [hcell i (by rw [← hl]; exact hi)]
          exact hu
  obtain ⟨xs, h1, h2, h3⟩ := key len (Nat.le_refl _)
  exact ⟨xs, h1, ⟨h1, hlen, fun _ => ⟨a, rfl, h3⟩⟩, h2⟩

theorem one_string {n : Nat} {cs : List Value} {y : DataW H × List MemPlace} {c : Value} (hc : cs = [c]) (h : DataW.trod enc Tryz.prog W base sp held n 9 cs = some y) : ∃ s : ByteArray, c = .string s ∧ s.size < 9223372036854775808 := by
  obtain ⟨s, hs, _, hm⟩ := DataW.trod_string Tryz.underlying9 h
  subst hc
  injection hs with hs _
  exact ⟨s, hs, by unfold maxLen at hm; omega⟩
theorem open49 (n : Nat) (cs : List Value) (y : DataW H × List MemPlace) (h : DataW.trod enc Tryz.prog W base sp held n 49 cs = some y) : ∃ x : S49, k49.K W x cs ∧ (x.f0.size < 9223372036854775808 ∧ x.f1.size < 9223372036854775808 ∧ x.f2.size < 9223372036854775808) := by
  obtain ⟨xs, m, rfl, _, hl, hxl, hall⟩ := DataW.trod_struct Tryz.underlying49 h
  rw [cells49] at hl
  obtain ⟨a, b, c, rfl⟩ := len3 hl
  have hx : xs.length = 3 := hxl
  have f0 := hall 0 _ rfl
  have f1 := hall 1 _ rfl
  have f2 := hall 2 _ rfl
  rw [List.getElem?_eq_getElem (by omega)] at f0 f1 f2
  obtain ⟨s0, rfl, h0⟩ := one_string (c := a) (by show List.take (Tryz.prog.cellsOf 9) _ = _; rw [cells9]; rfl) f0
  obtain ⟨s1, rfl, h1⟩ := one_string (c := b) (by show List.take (Tryz.prog.cellsOf 9) _ = _; rw [cells9]; rfl) f1
  obtain ⟨s2, rfl, h2⟩ := one_string (c := c) (by show List.take (Tryz.prog.cellsOf 9) _ = _; rw [cells9]; rfl) f2
  exact ⟨⟨s0, s1, s2⟩, k49_mk W ⟨s0, s1, s2⟩, h0, h1, h2⟩
theorem open51 (n : Nat) (cs : List Value) (y : DataW H × List MemPlace) (h : DataW.trod enc Tryz.prog W base sp held n 51 cs = some y) : ∃ x : S51, k51.K W x cs ∧ x.short := by
  obtain ⟨xs, m, rfl, _, hl, hxl, hall⟩ := DataW.trod_struct Tryz.underlying51 h
  rw [cells51] at hl
  obtain ⟨a, b, c, d, e, f, rfl⟩ := len6 hl
  have hx : xs.length = 4 := hxl
  have f0 := hall 0 _ rfl
  have f1 := hall 1 _ rfl
  have f2 := hall 2 _ rfl
  have f3 := hall 3 _ rfl
  rw [List.getElem?_eq_getElem (by omega)] at f0 f1 f2 f3
  obtain ⟨s0, rfl, h0⟩ := one_string (c := a) (by show List.take (Tryz.prog.cellsOf 9) _ = _; rw [cells9]; rfl) f0
  obtain ⟨s1, rfl, h1⟩ := one_string (c := b) (by show List.take (Tryz.prog.cellsOf 9) _ = _; rw [cells9]; rfl) f1
  obtain ⟨s2, rfl, h2⟩ := one_string (c := c) (by show List.take (Tryz.prog.cellsOf 9) _ = _; rw [cells9]; rfl) f2
  obtain ⟨x3, hk, hs⟩ := open49 _ _ _ f3
  have ho := k49_open hk
  have ho' : [d, e, f] = [.string x3.f0, .string x3.f1, .string x3.f2] := by
    rw [← ho]
    show [d, e, f] = List.take (Tryz.prog.cellsOf 49) (List.drop 3 _)
    rw [cells49]
    rfl
  injection ho' with e1 ho'
  injection ho' with e2 ho'
  injection ho' with e3 _
  subst e1 e2 e3
  exact ⟨⟨s0, s1, s2, x3⟩, k51_mk W ⟨s0, s1, s2, x3⟩, h0, h1, h2, hs.1, hs.2.1, hs.2.2⟩
/-- a slice of numbers -/
theorem open26 (n : Nat) (cs : List Value) (y : DataW H × List MemPlace) (h : DataW.trod enc Tryz.prog W base sp held n 26 cs = some y) : ∃ (A : Option Addr) (c : Nat) (xs : List Int), cs = [.slice A xs.length c] ∧ xs.length ≤ c ∧ (Kd.int .i64).C W A xs.length xs ∧ xs.length < 9223372036854775808 := by
  rcases DataW.trod_slice Tryz.underlying26 h with ⟨rfl, _⟩ | ⟨a, len, cap, elems, rest, m, rfl, rfl, _, _, h1, h2, h3, h4, _, _⟩
  · exact ⟨none, 0, [], rfl, Nat.le_refl _, ⟨rfl, by simp, fun h => by simp at h⟩, by simp⟩
  · have hm : cap < 9223372036854775808 := by unfold maxLen at h2; omega
    obtain ⟨xs, e1, e2, _⟩ := row_of_reads (Kd.int .i64) 3 cells3 (fun _ => True) m (fun cs y hy => by
      obtain ⟨z, rfl, _, _⟩ := DataW.trod_int Tryz.underlying3 hy
      exact ⟨z, rfl, trivial⟩) h3 (by omega) h4
    subst e1
    exact ⟨some a, cap, xs, rfl, h1, e2, by omega⟩
/-- a slice of tuples -/
theorem open27 (n : Nat) (cs : List Value) (y : DataW H × List MemPlace) (h : DataW.trod enc Tryz.prog W base sp held n 27 cs = some y) : ∃ (A : Option Addr) (c : Nat) (xs : List S51), cs = [.slice A xs.length c] ∧ xs.length ≤ c ∧ k51.C W A xs.length xs ∧ xs.length < 9223372036854775808 ∧ ∀ t ∈ xs, t.short := by
  rcases DataW.trod_slice Tryz.underlying27 h with ⟨rfl, _⟩ | ⟨a, len, cap, elems, rest, m, rfl, rfl, _, _, h1, h2, h3, h4, _, _⟩
  · exact ⟨none, 0, [], rfl, Nat.le_refl _, ⟨rfl, by simp, fun h => by simp at h⟩, by simp, by simp⟩
  · have hm : cap < 9223372036854775808 := by unfold maxLen at h2; omega
    obtain ⟨xs, e1, e2, e3⟩ := row_of_reads k51 51 cells51 S51.short m (fun cs y hy => open51 m cs y hy) h3 (by omega) h4
    subst e1
    exact ⟨some a, cap, xs, rfl, h1, e2, by omega, e3⟩
theorem one_of {P : List Value → Prop} {cs : List Value} {v c : Value} (h : cs = [v]) (hc : cs = [c]) : c = v := by
  rw [hc] at h
  injection h
end
end Go.Proofs.YtbdoafigggcdpaaGreatDoor.PScr
