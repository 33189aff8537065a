/- The lines of a text are good and few; Read, by how it ends. No condition of ours. -/
import Derived.Test.YtbdoafigggcdpaaGreatDoorMC
namespace Go.Proofs.YtbdoafigggcdpaaGreatDoor.PScr
open Go.RowKit Go.Proofs.YtbdoafigggcdpaaGreatDoorW.PrintWords Go.Proofs.YtbdoafigggcdpaaGreatDoorW.PrintLast Go.Proofs.YtbdoafigggcdpaaGreatDoorW.PrintMore
set_option linter.unusedVariables false
set_option linter.unusedSimpArgs false

theorem lineGood_good {s : ByteArray} (h : lineGood s = true) : goodL (lineOf (cut1 s nlb)) = true := by
  unfold lineGood at h
  rw [Bool.and_eq_true] at h
  exact h.1
theorem readGo_len : ∀ (f : Nat) (s : ByteArray) (acc : List S29) (n : Nat), (∀ x ∈ acc, goodL x = true) → (readGo f s acc n).1.length ≤ acc.length + s.size ∧ (readGo f s acc n).2.1 ≤ n + s.size ∧ ((readGo f s acc n).2.2 = false → (readGo f s acc n).1 = [] ∧ n ≤ (readGo f s acc n).2.1) ∧ (∀ x ∈ (readGo f s acc n).1, goodL x = true)
  | 0, s, acc, n, h => by simp [readGo]; exact h
  | f + 1, s, acc, n, h => by
    unfold readGo
    split
    · exact ⟨by simp, by simp, by simp, h⟩
    · split
      · rename_i hg
        have hl := good_less s hg
        have ih := readGo_len f (cut2 s nlb) (acc ++ [lineOf (cut1 s nlb)]) (n + 1) (fun x hx => by
          rcases List.mem_append.1 hx with hx | hx
          · exact h x hx
          · rw [List.mem_singleton.1 hx]; exact lineGood_good hg)
        rw [List.length_append, List.length_singleton] at ih
        exact ⟨by omega, by omega, fun hh => ⟨(ih.2.2.1 hh).1, by have := (ih.2.2.1 hh).2; omega⟩, ih.2.2.2⟩
      · exact ⟨by simp, by simp, by simp, by simp⟩
theorem readAll_len (s : ByteArray) : (readAll s).1.length ≤ s.size ∧ (readAll s).2.1 ≤ 1 + s.size ∧ ((readAll s).2.2 = false → (readAll s).1 = [] ∧ 1 ≤ (readAll s).2.1) ∧ (∀ x ∈ (readAll s).1, goodL x = true) := by
  have := readGo_len (s.size + 1) s [] 1 (by simp)
  rw [List.length_nil, Nat.zero_add] at this
  exact this
theorem readAll_zero (s : ByteArray) (h : (readAll s).2.2 = true) : (readAll s).2.1 = 0 := readGo_zero _ _ _ _ h

/-! ### Read, by how it ends -/
theorem readOk_any (w0 : World) (F : Facts w0) (s : ByteArray) (hs : s.size ≤ 900000) (w : World) (hB0 : Below w0.heap.size w0 w) (hE : EntsIn w) (l : List S29) (n : Nat) (hr : readAll s = (l, n, true)) :
    Calls Tryz.prog 14 #[.string s] w fun e w' => (∃ A c, e = .returned (.tuple #[.slice A l.length c, .int .i64 0, .int .i64 0]) ∧ k29.R 29 w' w.heap.size (fun _ => True) (.slice A l.length c) l) ∧ Below w.heap.size w w' := by
  have hz := readAll_zero s (by rw [hr])
  rw [hr] at hz
  have hz' : n = 0 := hz
  subst hz'
  refine (read_any w0 F s hs w hB0 hE _ hr).mono ?_
  rintro e w' ⟨⟨v, rfl, hrow⟩, hb⟩
  obtain ⟨A, c, rfl⟩ := Kd.R_slice hrow
  exact ⟨⟨A, c, rfl, hrow⟩, hb⟩
theorem readBad_any (w0 : World) (F : Facts w0) (s : ByteArray) (hs : s.size ≤ 900000) (w : World) (hB0 : Below w0.heap.size w0 w) (hE : EntsIn w) (l : List S29) (n : Nat) (hr : readAll s = (l, n, false)) :
    Calls Tryz.prog 14 #[.string s] w fun e w' => (∃ A c, e = .returned (.tuple #[.slice A 0 c, .int .i64 n, .int .i64 200])) ∧ Below w.heap.size w w' := by
  have hz := (readAll_len s).2.2.1 (by rw [hr])
  rw [hr] at hz
  have hz' : l = [] := hz.1
  subst hz'
  refine (read_any w0 F s hs w hB0 hE _ hr).mono ?_
  rintro e w' ⟨⟨v, rfl, hrow⟩, hb⟩
  obtain ⟨A, c, rfl⟩ := Kd.R_slice hrow
  exact ⟨⟨A, c, rfl⟩, hb⟩

end Go.Proofs.YtbdoafigggcdpaaGreatDoor.PScr
