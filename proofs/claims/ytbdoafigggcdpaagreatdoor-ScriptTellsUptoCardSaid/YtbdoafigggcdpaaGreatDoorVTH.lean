/- An answer that comes in: what its reading gives the walks. No condition of ours. -/
import Derived.Test.YtbdoafigggcdpaaGreatDoorVOA
import Derived.Test.YtbdoafigggcdpaaGreatDoorVTG
import Derived.Test.YtbdoafigggcdpaaGreatDoorRows
namespace Go.Proofs.YtbdoafigggcdpaaGreatDoor.PScr
open Go Go.RowKit Go.ChangeShapes Go.WideShapes Go.ChangeAt Go.Proofs.YtbdoafigggcdpaaGreatDoorW.PrintWords Go.Proofs.YtbdoafigggcdpaaGreatDoorW.PrintLast Go.Proofs.YtbdoafigggcdpaaGreatDoorW.PrintMore
set_option linter.unusedVariables false
set_option linter.unusedSimpArgs false

/-! ### bulk -/
theorem part_le {H : Type} {d : DataW H} {l : List (DataW H)} (h : d ∈ l) : Rows.uptoBulk d ≤ Rows.uptoBulkAll l := by
  induction l with
  | nil => cases h
  | cons x r ih =>
    simp only [Rows.uptoBulkAll]
    cases List.mem_cons.1 h with
    | inl e => subst e; omega
    | inr e => have := ih e; omega
theorem bulk_string {H : Type} (bytes : List UInt8) : Rows.uptoBulk (DataW.lit (H := H) (.string bytes)) = bytes.length + 1 := by
  simp [Rows.uptoBulk]

section
variable {H : Type} {enc : TypeId × Value → H} {W : World} {base : Nat} {sp : Nat → Bool} {held : Bool}
theorem cells46 : Tryz.prog.cellsOf 46 = 13 := by kernel_rfl
theorem cells44 : Tryz.prog.cellsOf 44 = 3 := by kernel_rfl
theorem cells55 : Tryz.prog.cellsOf 55 = 8 := by kernel_rfl
theorem cells53 : Tryz.prog.cellsOf 53 = 7 := by kernel_rfl
theorem cells39 : Tryz.prog.cellsOf 39 = 1 := by kernel_rfl
theorem cells40 : Tryz.prog.cellsOf 40 = 1 := by kernel_rfl
theorem cells41 : Tryz.prog.cellsOf 41 = 1 := by kernel_rfl
theorem cells42 : Tryz.prog.cellsOf 42 = 1 := by kernel_rfl
theorem cells30 : Tryz.prog.cellsOf 30 = 1 := by kernel_rfl
theorem cells4 : Tryz.prog.cellsOf 4 = 1 := by kernel_rfl
theorem len7 {cs : List Value} (h : cs.length = 7) : ∃ a b c d e f g, cs = [a, b, c, d, e, f, g] := by
  match cs, h with
  | [a, b, c, d, e, f, g], _ => exact ⟨a, b, c, d, e, f, g, rfl⟩
theorem len8 {cs : List Value} (h : cs.length = 8) : ∃ a b c d e f g i, cs = [a, b, c, d, e, f, g, i] := by
  match cs, h with
  | [a, b, c, d, e, f, g, i], _ => exact ⟨a, b, c, d, e, f, g, i, rfl⟩
theorem len13 {cs : List Value} (h : cs.length = 13) : ∃ a0 a1 a2 a3 a4 a5 a6 a7 a8 a9 a10 a11 a12, cs = [a0, a1, a2, a3, a4, a5, a6, a7, a8, a9, a10, a11, a12] := by
  match cs, h with
  | [a0, a1, a2, a3, a4, a5, a6, a7, a8, a9, a10, a11, a12], _ => exact ⟨a0, a1, a2, a3, a4, a5, a6, a7, a8, a9, a10, a11, a12, rfl⟩

/-- a row of elements that read, each of them one of the list's -/
theorem row_of_mem {α : Type} (d : Kd α) (e : TypeId) (hsz : Tryz.prog.cellsOf e = d.sz) (good : α → Prop) (n : Nat) {elems : List (DataW H × List MemPlace)} (elem : ∀ cs y, y ∈ elems → DataW.trod enc Tryz.prog W base sp held n e cs = some y → ∃ x, d.K W x cs ∧ good x) {a : Addr} {len : Nat} (hel : elems.length = len) (hlen : len ≤ 9223372036854775807)
    (h : ∀ i, i < len → (W.cells? base (a.add (i * Tryz.prog.cellsOf e)) (Tryz.prog.cellsOf e)).bind (DataW.trod enc Tryz.prog W base sp held n e) = elems[i]?) : ∃ xs : List α, xs.length = len ∧ d.C W (some a) len xs ∧ ∀ x ∈ xs, good x := by
  have key : ∀ k, k ≤ len → ∃ xs : List α, xs.length = k ∧ (∀ x ∈ xs, good x) ∧ ∀ j p, xs[j]? = some p → ∃ c, c.length = d.sz ∧ d.K W p c ∧ ∀ i u, c[i]? = some u → W.cell? (a.add (j * d.sz + i)) = some u := by
    intro k
    induction k with
    | zero => intro _; exact ⟨[], rfl, by simp, by simp⟩
    | succ k ih =>
      intro hk
      obtain ⟨xs, h1, h2, h3⟩ := ih (by omega)
      have he := h k (by omega)
      rw [List.getElem?_eq_getElem (by omega : k < elems.length), hsz] at he
      obtain ⟨c, hc, hy⟩ := Option.bind_eq_some_iff.1 he
      obtain ⟨x, hx, hg⟩ := elem c _ (List.getElem_mem (by omega)) hy
      obtain ⟨_, hl, hcell⟩ := World.cells?_some hc
      refine ⟨xs ++ [x], by simp [h1], ?_, ?_⟩
      · intro y hy
        rcases List.mem_append.1 hy with hy | hy
        · exact h2 y hy
        · rw [List.mem_singleton.1 hy]; exact hg
      · intro j p hp
        rcases Nat.lt_or_ge j xs.length with hj | hj
        · rw [List.getElem?_append_left hj] at hp
          exact h3 j p hp
        · have hj' : j = xs.length := by
            have := (List.getElem?_eq_some_iff.1 hp).1
            rw [List.length_append, List.length_singleton] at this
            omega
          subst hj'
          have hp' : x = p := by simpa using hp
          subst hp'
          refine ⟨c, d.K_len hx, hx, ?_⟩
          intro i u hu
          have hi : i < c.length := (List.getElem?_eq_some_iff.1 hu).1
          have e2 : a.add (xs.length * d.sz + i) = (a.add (k * d.sz)).add i := by
            rw [h1]
            unfold Addr.add
            repeat' split
            all_goals simp_all
            all_goals omega
          rw [e2]
          rw [hcell i (by rw [← hl]; exact hi)]
          exact hu
  obtain ⟨xs, h1, h2, h3⟩ := key len (Nat.le_refl _)
  exact ⟨xs, h1, ⟨h1, hlen, fun _ => ⟨a, rfl, h3⟩⟩, h2⟩

theorem open39 (n : Nat) (cs : List Value) (y : DataW H × List MemPlace) (h : DataW.trod enc Tryz.prog W base sp held n 39 cs = some y) : ∃ (A : Option Addr) (c : Nat) (xs : List S49), cs = [.slice A xs.length c] ∧ xs.length ≤ c ∧ k49.C W A xs.length xs ∧ ∀ t ∈ xs, t.short := by
  rcases DataW.trod_slice Tryz.underlying39 h with ⟨rfl, _⟩ | ⟨a, len, cap, elems, rest, m, rfl, rfl, _, _, h1, h2, h3, h4, _, _⟩
  · exact ⟨none, 0, [], rfl, Nat.le_refl _, ⟨rfl, by simp, fun h => by simp at h⟩, by simp⟩
  · have hm : cap < 9223372036854775808 := by unfold maxLen at h2; omega
    obtain ⟨xs, e1, e2, e3⟩ := row_of_reads k49 49 cells49 S49.short m (fun cs y hy => open49 m cs y hy) h3 (by omega) h4
    subst e1
    exact ⟨some a, cap, xs, rfl, h1, e2, e3⟩
/-- strings, each no longer than the bulk -/
theorem open40 (B : Nat) (n : Nat) (cs : List Value) (y : DataW H × List MemPlace) (h : DataW.trod enc Tryz.prog W base sp held n 40 cs = some y) (hB : Rows.uptoBulk y.1 ≤ B) : ∃ (A : Option Addr) (c : Nat) (xs : List ByteArray), cs = [.slice A xs.length c] ∧ xs.length ≤ c ∧ Kd.string.C W A xs.length xs ∧ ∀ t ∈ xs, t.size ≤ B := by
  rcases DataW.trod_slice Tryz.underlying40 h with ⟨rfl, _⟩ | ⟨a, len, cap, elems, rest, m, rfl, rfl, hy, _, h1, h2, h3, h4, _, _⟩
  · exact ⟨none, 0, [], rfl, Nat.le_refl _, ⟨rfl, by simp, fun h => by simp at h⟩, by simp⟩
  · have hm : cap < 9223372036854775808 := by unfold maxLen at h2; omega
    have hb : Rows.uptoBulkAll (elems.map (·.1)) ≤ B := by
      rw [hy] at hB
      simp only [Rows.uptoBulk] at hB
      omega
    obtain ⟨xs, e1, e2, e3⟩ := row_of_mem Kd.string 9 cells9 (fun t : ByteArray => t.size ≤ B) m (fun cs y hmem hy => by
      obtain ⟨s, rfl, hx, _⟩ := DataW.trod_string Tryz.underlying9 hy
      refine ⟨s, rfl, ?_⟩
      have hp := part_le (List.mem_map_of_mem (f := (·.1)) hmem)
      rw [hx, bulk_string, size_len] at hp
      omega) h3 (by omega) h4
    subst e1
    exact ⟨some a, cap, xs, rfl, h1, e2, e3⟩
theorem open53 (n : Nat) (cs : List Value) (y : DataW H × List MemPlace) (h : DataW.trod enc Tryz.prog W base sp held n 53 cs = some y) : ∃ x : S53, k53.K W x cs ∧ x.f0.short := by
  obtain ⟨xs, m, rfl, _, hl, hxl, hall⟩ := DataW.trod_struct Tryz.underlying53 h
  rw [cells53] at hl
  obtain ⟨a, b, c, d, e, f, g, rfl⟩ := len7 hl
  have hx : xs.length = 2 := hxl
  have f0 := hall 0 _ rfl
  have f1 := hall 1 _ rfl
  rw [List.getElem?_eq_getElem (by omega)] at f0 f1
  obtain ⟨x0, hk, hs⟩ := open51 _ _ _ f0
  have ho := k51_open hk
  have ho' : [a, b, c, d, e, f] = [.string x0.f0, .string x0.f1, .string x0.f2, .string x0.f3.f0, .string x0.f3.f1, .string x0.f3.f2] := by
    rw [← ho]
    show [a, b, c, d, e, f] = List.take (Tryz.prog.cellsOf 51) _
    rw [cells51]
    rfl
  obtain ⟨bb, hb, _⟩ := DataW.trod_bool Tryz.underlying4 f1
  have hb' : [g] = [.bool bb] := by
    rw [← hb]
    show [g] = List.take (Tryz.prog.cellsOf 4) (List.drop 6 _)
    rw [cells4]
    rfl
  injection ho' with e1 ho'
  injection ho' with e2 ho'
  injection ho' with e3 ho'
  injection ho' with e4 ho'
  injection ho' with e5 ho'
  injection ho' with e6 _
  injection hb' with e7 _
  subst e1 e2 e3 e4 e5 e6 e7
  exact ⟨⟨x0, bb⟩, k53_mk W ⟨x0, bb⟩, hs⟩
/-- a number's bounds -/
theorem int_in {n : Int} (h : (Lit.int .i64 n).wf = true) : -9223372036854775808 ≤ n ∧ n < 9223372036854775808 := by
  have h2 : (decide (IntKind.i64.min ≤ n) && decide (n ≤ IntKind.i64.max)) = true := h
  have e1 : IntKind.i64.min = -9223372036854775808 := by decide
  have e2 : IntKind.i64.max = 9223372036854775807 := by decide
  rw [e1, e2] at h2
  simp only [Bool.and_eq_true, decide_eq_true_eq] at h2
  omega
theorem open55 (n : Nat) (cs : List Value) (y : DataW H × List MemPlace) (h : DataW.trod enc Tryz.prog W base sp held n 55 cs = some y) : ∃ x : S55, k55.K W x cs ∧ (x.f1.f0.short ∧ x.f0 < 9223372036854775808) := by
  obtain ⟨xs, m, rfl, _, hl, hxl, hall⟩ := DataW.trod_struct Tryz.underlying55 h
  rw [cells55] at hl
  obtain ⟨z, a, b, c, d, e, f, g, rfl⟩ := len8 hl
  have hx : xs.length = 2 := hxl
  have f0 := hall 0 _ rfl
  have f1 := hall 1 _ rfl
  rw [List.getElem?_eq_getElem (by omega)] at f0 f1
  obtain ⟨x1, hk, hs⟩ := open53 _ _ _ f1
  have ho := k53_open hk
  have ho' : [a, b, c, d, e, f, g] = [.string x1.f0.f0, .string x1.f0.f1, .string x1.f0.f2, .string x1.f0.f3.f0, .string x1.f0.f3.f1, .string x1.f0.f3.f2, .bool x1.f1] := by
    rw [← ho]
    show [a, b, c, d, e, f, g] = List.take (Tryz.prog.cellsOf 53) (List.drop 1 _)
    rw [cells53]
    rfl
  obtain ⟨k, hb, _, hw⟩ := DataW.trod_int Tryz.underlying3 f0
  have hb' : [z] = [.int .i64 k] := by
    rw [← hb]
    show [z] = List.take (Tryz.prog.cellsOf 3) _
    rw [cells3]
    rfl
  injection ho' with e1 ho'
  injection ho' with e2 ho'
  injection ho' with e3 ho'
  injection ho' with e4 ho'
  injection ho' with e5 ho'
  injection ho' with e6 ho'
  injection ho' with e7 _
  injection hb' with e8 _
  subst e1 e2 e3 e4 e5 e6 e7 e8
  exact ⟨⟨k, x1⟩, k55_mk W ⟨k, x1⟩, hs, (int_in hw).2⟩
theorem open41 (n : Nat) (cs : List Value) (y : DataW H × List MemPlace) (h : DataW.trod enc Tryz.prog W base sp held n 41 cs = some y) : ∃ (A : Option Addr) (c : Nat) (xs : List S55), cs = [.slice A xs.length c] ∧ xs.length ≤ c ∧ k55.C W A xs.length xs ∧ ∀ t ∈ xs, (t.f1.f0.short ∧ t.f0 < 9223372036854775808) := by
  rcases DataW.trod_slice Tryz.underlying41 h with ⟨rfl, _⟩ | ⟨a, len, cap, elems, rest, m, rfl, rfl, _, _, h1, h2, h3, h4, _, _⟩
  · exact ⟨none, 0, [], rfl, Nat.le_refl _, ⟨rfl, by simp, fun h => by simp at h⟩, by simp⟩
  · have hm : cap < 9223372036854775808 := by unfold maxLen at h2; omega
    obtain ⟨xs, e1, e2, e3⟩ := row_of_reads k55 55 cells55 (fun t : S55 => t.f1.f0.short ∧ t.f0 < 9223372036854775808) m (fun cs y hy => open55 m cs y hy) h3 (by omega) h4
    subst e1
    exact ⟨some a, cap, xs, rfl, h1, e2, e3⟩
/-- numbers, each one that its kind holds -/
theorem open26b (n : Nat) (cs : List Value) (y : DataW H × List MemPlace) (h : DataW.trod enc Tryz.prog W base sp held n 26 cs = some y) : ∃ (A : Option Addr) (c : Nat) (xs : List Int), cs = [.slice A xs.length c] ∧ xs.length ≤ c ∧ (Kd.int .i64).C W A xs.length xs ∧ ∀ t ∈ xs, t < 9223372036854775808 := by
  rcases DataW.trod_slice Tryz.underlying26 h with ⟨rfl, _⟩ | ⟨a, len, cap, elems, rest, m, rfl, rfl, _, _, h1, h2, h3, h4, _, _⟩
  · exact ⟨none, 0, [], rfl, Nat.le_refl _, ⟨rfl, by simp, fun h => by simp at h⟩, by simp⟩
  · have hm : cap < 9223372036854775808 := by unfold maxLen at h2; omega
    obtain ⟨xs, e1, e2, e3⟩ := row_of_reads (Kd.int .i64) 3 cells3 (fun t : Int => t < 9223372036854775808) m (fun cs y hy => by
      obtain ⟨z, rfl, _, hw⟩ := DataW.trod_int Tryz.underlying3 hy
      exact ⟨z, rfl, (int_in hw).2⟩) h3 (by omega) h4
    subst e1
    exact ⟨some a, cap, xs, rfl, h1, e2, e3⟩
/-- a tree -/
theorem open44 : ∀ (n : Nat) (cs : List Value) (y : DataW H × List MemPlace), DataW.trod enc Tryz.prog W base sp held n 44 cs = some y → ∃ x : S44, k44.K W x cs ∧ True := by
  intro n
  induction n using Nat.strongRecOn with
  | _ n ih =>
    intro cs y h
    obtain ⟨xs, m, rfl, _, hl, hxl, hall⟩ := DataW.trod_struct Tryz.underlying44 h
    rw [cells44] at hl
    obtain ⟨a, b, c, rfl⟩ := len3 hl
    have hx : xs.length = 3 := hxl
    have f0 := hall 0 _ rfl
    have f1 := hall 1 _ rfl
    have f2 := hall 2 _ rfl
    rw [List.getElem?_eq_getElem (by omega)] at f0 f1 f2
    obtain ⟨s0, rfl, h0⟩ := one_string (c := a) (by show List.take (Tryz.prog.cellsOf 9) _ = _; rw [cells9]; rfl) f0
    obtain ⟨A1, c1, us, hb, l1, g1, _⟩ := open39 _ _ _ f1
    have hb' : b = .slice A1 us.length c1 := one_of (P := fun _ => True) hb (by show List.take (Tryz.prog.cellsOf 39) (List.drop 1 _) = _; rw [cells39]; rfl)
    have hpar : ∃ (A : Option Addr) (k : Nat) (ps : List S44), [c] = [Value.slice A ps.length k] ∧ ps.length ≤ k ∧ k44.C W A ps.length ps := by
      have f2' : DataW.trod enc Tryz.prog W base sp held m 42 [c] = some xs[2] := by
        rw [← f2]
        show _ = DataW.trod enc Tryz.prog W base sp held m 42 (List.take (Tryz.prog.cellsOf 42) (List.drop 2 _))
        rw [cells42]
        rfl
      rcases DataW.trod_slice Tryz.underlying42 f2' with ⟨hc, _⟩ | ⟨a, len, cap, elems, rest, m2, rfl, hc, _, _, h1, h2, h3, h4, _, _⟩
      · exact ⟨none, 0, [], hc, Nat.le_refl _, ⟨rfl, by simp, fun h => by simp at h⟩⟩
      · have hm : cap < 9223372036854775808 := by unfold maxLen at h2; omega
        obtain ⟨ps, e1, e2, _⟩ := row_of_reads k44 44 cells44 (fun _ => True) m2 (fun cs y hy => ih m2 (by omega) cs y hy) h3 (by omega) h4
        subst e1
        exact ⟨some a, cap, ps, hc, h1, e2⟩
    obtain ⟨A2, c2, ps, hc, l2, g2⟩ := hpar
    injection hc with hc _
    subst hb' hc
    exact ⟨⟨s0, us, ps⟩, k44_mk W ⟨s0, us, ps⟩ l1 g1 l2 g2, trivial⟩

/-- AN ANSWER THAT COMES IN -/
structure AnsIn (W : World) (cs : Array Value) (B : Nat) where
  err : Int
  line : Int
  tok : ByteArray
  has : Bool
  cut : Bool
  At : Option Addr
  ct : Nat
  ts : List S51
  Au : Option Addr
  cu : Nat
  us : List S49
  Ai : Option Addr
  ci : Nat
  ids : List ByteArray
  Ae : Option Addr
  ce : Nat
  es : List S55
  t : S44
  Ax : Option Addr
  cx : Nat
  Ap : Option Addr
  cp : Nat
  Ag : Option Addr
  cg : Nat
  pages : List Int
  eq : cs = #[.int .i64 err, .int .i64 line, .string tok, .bool has, .bool cut, .slice At ts.length ct, .slice Au us.length cu, .slice Ai ids.length ci, .slice Ae es.length ce, .string t.f0, .slice Ax t.f1.length cx, .slice Ap t.f2.length cp, .slice Ag pages.length cg]
  herr : err < 9223372036854775808
  hline : line < 9223372036854775808
  htok : tok.size ≤ B
  rt : Kd.C k51 W At ts.length ts
  ht : ∀ x ∈ ts, x.short
  ru : Kd.C k49 W Au us.length us
  hu : ∀ x ∈ us, x.short
  ri : Kd.string.C W Ai ids.length ids
  hi : ∀ x ∈ ids, x.size ≤ B
  re : Kd.C k55 W Ae es.length es
  he : ∀ x ∈ es, (x.f1.f0.short ∧ x.f0 < 9223372036854775808)
  lx : t.f1.length ≤ cx
  rx : Kd.C k49 W Ax t.f1.length t.f1
  lp : t.f2.length ≤ cp
  rp : Kd.C k44 W Ap t.f2.length t.f2
  rg : (Kd.int .i64).C W Ag pages.length pages
  hg : ∀ x ∈ pages, x < 9223372036854775808
theorem open46 (B : Nat) (n : Nat) (cs : Array Value) (y : DataW H × List MemPlace) (h : DataW.trod enc Tryz.prog W base sp held n 46 cs.toList = some y) (hB : Rows.uptoBulk y.1 ≤ B) : Nonempty (AnsIn W cs B) := by
  obtain ⟨xs, m, rfl, hy, hl, hxl, hall⟩ := DataW.trod_struct Tryz.underlying46 h
  rw [cells46] at hl
  obtain ⟨a0, a1, a2, a3, a4, a5, a6, a7, a8, a9, a10, a11, a12, hcs⟩ := len13 hl
  rw [hcs] at hall
  have hcs' : cs = #[a0, a1, a2, a3, a4, a5, a6, a7, a8, a9, a10, a11, a12] := by cases cs; simp_all
  have hx : xs.length = 11 := hxl
  have hbulk : ∀ (i : Nat) (hi : i < xs.length), Rows.uptoBulk (xs[i]).1 ≤ B := by
    intro i hi
    have h1 : Rows.uptoBulkAll (xs.map (·.1)) + 1 ≤ B := by
      rw [hy] at hB
      simpa only [Rows.uptoBulk] using hB
    have := part_le (List.mem_map_of_mem (f := (·.1)) (List.getElem_mem hi))
    omega
  have f0 := hall 0 _ rfl
  have f1 := hall 1 _ rfl
  have f2 := hall 2 _ rfl
  have f3 := hall 3 _ rfl
  have f4 := hall 4 _ rfl
  have f5 := hall 5 _ rfl
  have f6 := hall 6 _ rfl
  have f7 := hall 7 _ rfl
  have f8 := hall 8 _ rfl
  have f9 := hall 9 _ rfl
  have f10 := hall 10 _ rfl
  rw [List.getElem?_eq_getElem (by omega)] at f0 f1 f2 f3 f4 f5 f6 f7 f8 f9 f10
  obtain ⟨err, q0, _, w0⟩ := DataW.trod_int Tryz.underlying30 f0
  have e0 : a0 = .int .i64 err := one_of (P := fun _ => True) q0 (by show List.take (Tryz.prog.cellsOf 30) _ = _; rw [cells30]; rfl)
  obtain ⟨line, q1, _, w1⟩ := DataW.trod_int Tryz.underlying3 f1
  have e1 : a1 = .int .i64 line := one_of (P := fun _ => True) q1 (by show List.take (Tryz.prog.cellsOf 3) (List.drop 1 _) = _; rw [cells3]; rfl)
  obtain ⟨tok, q2, d2, _⟩ := DataW.trod_string Tryz.underlying9 f2
  have e2 : a2 = .string tok := one_of (P := fun _ => True) q2 (by show List.take (Tryz.prog.cellsOf 9) (List.drop 2 _) = _; rw [cells9]; rfl)
  have b2 := hbulk 2 (by omega)
  rw [d2, bulk_string, size_len] at b2
  obtain ⟨has, q3, _⟩ := DataW.trod_bool Tryz.underlying4 f3
  have e3 : a3 = .bool has := one_of (P := fun _ => True) q3 (by show List.take (Tryz.prog.cellsOf 4) (List.drop 3 _) = _; rw [cells4]; rfl)
  obtain ⟨cut, q4, _⟩ := DataW.trod_bool Tryz.underlying4 f4
  have e4 : a4 = .bool cut := one_of (P := fun _ => True) q4 (by show List.take (Tryz.prog.cellsOf 4) (List.drop 4 _) = _; rw [cells4]; rfl)
  obtain ⟨At, ct, ts, q5, _, r5, _, s5⟩ := open27 _ _ _ f5
  have e5 : a5 = .slice At ts.length ct := one_of (P := fun _ => True) q5 (by show List.take (Tryz.prog.cellsOf 27) (List.drop 5 _) = _; rw [cells27]; rfl)
  obtain ⟨Au, cu, us, q6, _, r6, s6⟩ := open39 _ _ _ f6
  have e6 : a6 = .slice Au us.length cu := one_of (P := fun _ => True) q6 (by show List.take (Tryz.prog.cellsOf 39) (List.drop 6 _) = _; rw [cells39]; rfl)
  obtain ⟨Ai, ci, ids, q7, _, r7, s7⟩ := open40 B _ _ _ f7 (hbulk 7 (by omega))
  have e7 : a7 = .slice Ai ids.length ci := one_of (P := fun _ => True) q7 (by show List.take (Tryz.prog.cellsOf 40) (List.drop 7 _) = _; rw [cells40]; rfl)
  obtain ⟨Ae, ce, es, q8, _, r8, s8⟩ := open41 _ _ _ f8
  have e8 : a8 = .slice Ae es.length ce := one_of (P := fun _ => True) q8 (by show List.take (Tryz.prog.cellsOf 41) (List.drop 8 _) = _; rw [cells41]; rfl)
  obtain ⟨t, hk, _⟩ := open44 _ _ _ f9
  obtain ⟨Ax, cx, Ap, cp, q9, lx, gx, lp, gp⟩ := k44_open hk
  have q9' : [a9, a10, a11] = [.string t.f0, .slice Ax t.f1.length cx, .slice Ap t.f2.length cp] := by
    rw [← q9]
    show [a9, a10, a11] = List.take (Tryz.prog.cellsOf 44) (List.drop 9 _)
    rw [cells44]
    rfl
  injection q9' with e9 q9'
  injection q9' with e10 q9'
  injection q9' with e11 _
  obtain ⟨Ag, cg, pages, q10, _, r10, s10⟩ := open26b _ _ _ f10
  have e12 : a12 = .slice Ag pages.length cg := one_of (P := fun _ => True) q10 (by show List.take (Tryz.prog.cellsOf 26) (List.drop 12 _) = _; rw [cells26]; rfl)
  subst e0 e1 e2 e3 e4 e5 e6 e7 e8 e9 e10 e11 e12
  exact ⟨{ err := err, line := line, tok := tok, has := has, cut := cut, At := At, ct := ct, ts := ts, Au := Au, cu := cu, us := us, Ai := Ai, ci := ci, ids := ids, Ae := Ae, ce := ce, es := es, t := t, Ax := Ax, cx := cx, Ap := Ap, cp := cp, Ag := Ag, cg := cg, pages := pages, eq := hcs', herr := (int_in w0).2, hline := (int_in w1).2, htok := by omega, rt := r5, ht := s5, ru := r6, hu := s6, ri := r7, hi := s7, re := r8, he := s8, lx := lx, rx := gx, lp := lp, rp := gp, rg := r10, hg := s10 }⟩
end
end Go.Proofs.YtbdoafigggcdpaaGreatDoor.PScr
