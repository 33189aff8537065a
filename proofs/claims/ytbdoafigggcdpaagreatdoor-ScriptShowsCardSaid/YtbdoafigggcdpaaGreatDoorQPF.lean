/- The lines of a text are good and few; Read, by how it ends. No condition of ours. -/
import Derived.Test.YtbdoafigggcdpaaGreatDoorQMC
namespace Go.Proofs.YtbdoafigggcdpaaGreatDoor.PScr
open Go.RowKit Go.Proofs.YtbdoafigggcdpaaGreatDoorW.PrintWords Go.Proofs.YtbdoafigggcdpaaGreatDoorW.PrintLast Go.Proofs.YtbdoafigggcdpaaGreatDoorW.PrintMore
set_option linter.unusedVariables false
set_option linter.unusedSimpArgs false

theorem readAll_zero (s : ByteArray) (h : (readAll s).2.2 = true) : (readAll s).2.1 = 0 := readGo_zero _ _ _ _ h

/-! ### Read, by how it ends -/
theorem readOk_any (w0 : World) (F : Facts w0) (s : ByteArray) (hs : s.size ≤ 900000) (w : World) (hB0 : Below w0.heap.size w0 w) (hE : EntsIn w) (l : List S29) (n : Nat) (hr : readAll s = (l, n, true)) :
    Calls Tryz.prog 14 #[.string s] w fun e w' => (∃ A c, e = .returned (.tuple #[.slice A l.length c, .int .i64 0, .int .i64 0]) ∧ k29.R 29 w' w.heap.size (fun _ => True) (.slice A l.length c) l) ∧ Below w.heap.size w w' := by
  have hz := readAll_zero s (by rw [hr])
  rw [hr] at hz
  have hz' : n = 0 := hz
  subst hz'
  refine (read_any w0 F s hs w hB0 hE _ hr).mono ?_
  rintro e w' ⟨⟨v, rfl, hrow⟩, hb⟩
  obtain ⟨A, c, rfl⟩ := Kd.R_slice hrow
  exact ⟨⟨A, c, rfl, hrow⟩, hb⟩
end Go.Proofs.YtbdoafigggcdpaaGreatDoor.PScr
