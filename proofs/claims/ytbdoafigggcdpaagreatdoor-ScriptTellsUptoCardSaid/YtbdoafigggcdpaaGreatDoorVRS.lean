/- The walks of the reference's texts of users and tuples. No condition of ours. -/
import Derived.Test.YtbdoafigggcdpaaGreatDoorVK0
import Derived.Deep.RegionHeld3
namespace Go.Proofs.YtbdoafigggcdpaaGreatDoor.PScr
open Go.RowKit Go.Proofs.YtbdoafigggcdpaaGreatDoorW.PrintWords Go.Proofs.YtbdoafigggcdpaaGreatDoorW.PrintLast Go.Proofs.YtbdoafigggcdpaaGreatDoorW.PrintMore
set_option linter.unusedVariables false
set_option linter.unusedSimpArgs false

/-- the bytes of a user's text -/
def userText (k i r : ByteArray) : ByteArray := if r.toList = [] then k ++ ⟨#[58]⟩ ++ i else k ++ ⟨#[58]⟩ ++ i ++ ⟨#[35]⟩ ++ r
def lunetteref11_ShowUser.f (k i r : ByteArray) : Option ByteArray := if k.size ≤ 100 ∧ i.size ≤ 100 ∧ r.size ≤ 100 then some (userText k i r) else none

set_option maxRecDepth 100000 in
theorem lunetteref11_ShowUser.calls (a0_0 : ByteArray) (a0_1 : ByteArray) (a0_2 : ByteArray) (r : ByteArray) (w : World) (h : lunetteref11_ShowUser.f a0_0 a0_1 a0_2 = some r) :
    Calls Tryz.prog 85 #[.agg #[.string a0_0, .string a0_1, .string a0_2]] w fun e w' => e = .returned (.string r) ∧ Below w.heap.size w w' := by
  unfold lunetteref11_ShowUser.f at h
  split at h
  · rename_i hs
    obtain ⟨h0, h1, h2⟩ := hs
    obtain rfl := Option.some.inj h
    clear h
    have hu49 := Tryz.underlying49
    have HB := Aside0.mk (Below.refl w.heap.size w)
    unfold userText
    by_cases he : a0_2.toList = []
    · rw [if_pos he]
      have he1 : (a0_2.toList == []) = true := by rw [he]; rfl
      clear he
      go_enter Tryz.func85, Tryz.ntmps85
      go_wp2
      go_ret
      exact ⟨rfl, by repeat (first | exact Below.refl _ _ | apply below_alloc | apply pw_below_drewN | apply below_drew1)⟩
    · rw [if_neg he]
      have he1 : (a0_2.toList == []) = false := beq_eq_false_iff_ne.2 he
      clear he
      go_enter Tryz.func85, Tryz.ntmps85
      go_wp2
      go_ret
      exact ⟨rfl, by repeat (first | exact Below.refl _ _ | apply below_alloc | apply pw_below_drewN | apply below_drew1)⟩
  · exact absurd h (by simp)

theorem below_cell0 {w w1 : World} (h : Below w.heap.size w w1) {a : Addr} {v : Value} (hc : w.cell? a = some v) : w1.cell? a = some v := (h.cell (World.block_lt_of_cell? w a hc)).trans hc
theorem six_keep {w w1 w' : World} {g : Nat} {x0 x1 x2 x3 x4 x5 : Value} (hb : Below w1.heap.size w1 w') (h : w1.cell? ⟨g, 0, none⟩ = some x0 ∧ w1.cell? ⟨g, 1, none⟩ = some x1 ∧ w1.cell? ⟨g, 2, none⟩ = some x2 ∧ w1.cell? ⟨g, 3, none⟩ = some x3 ∧ w1.cell? ⟨g, 4, none⟩ = some x4 ∧ w1.cell? ⟨g, 5, none⟩ = some x5 ∧ Aside0 (Below w.heap.size w w1)) : w'.cell? ⟨g, 0, none⟩ = some x0 ∧ w'.cell? ⟨g, 1, none⟩ = some x1 ∧ w'.cell? ⟨g, 2, none⟩ = some x2 ∧ w'.cell? ⟨g, 3, none⟩ = some x3 ∧ w'.cell? ⟨g, 4, none⟩ = some x4 ∧ w'.cell? ⟨g, 5, none⟩ = some x5 ∧ Aside0 (Below w.heap.size w w') :=
  ⟨below_cell0 hb h.1, below_cell0 hb h.2.1, below_cell0 hb h.2.2.1, below_cell0 hb h.2.2.2.1, below_cell0 hb h.2.2.2.2.1, below_cell0 hb h.2.2.2.2.2.1, ⟨below_step h.2.2.2.2.2.2.out hb⟩⟩
/-- the bytes of a tuple's text -/
def tupleText (a b c d e f : ByteArray) : ByteArray := a ++ ⟨#[58]⟩ ++ b ++ ⟨#[35]⟩ ++ c ++ ⟨#[64]⟩ ++ userText d e f
def lunetteref11_Show.f (a b c d e f : ByteArray) : Option ByteArray := if a.size ≤ 100 ∧ b.size ≤ 100 ∧ c.size ≤ 100 ∧ d.size ≤ 100 ∧ e.size ≤ 100 ∧ f.size ≤ 100 then some (tupleText a b c d e f) else none
theorem userText_size (d e f : ByteArray) (h0 : d.size ≤ 100) (h1 : e.size ≤ 100) (h2 : f.size ≤ 100) : (userText d e f).size ≤ 400 := by
  have h1 : (⟨#[58]⟩ : ByteArray).size = 1 := rfl
  have h2 : (⟨#[35]⟩ : ByteArray).size = 1 := rfl
  unfold userText; split <;> simp only [ByteArray.size_append] <;> omega

set_option maxRecDepth 100000 in
theorem lunetteref11_Show.calls (a0_0 : ByteArray) (a0_1 : ByteArray) (a0_2 : ByteArray) (a0_3 : ByteArray) (a0_4 : ByteArray) (a0_5 : ByteArray) (r : ByteArray) (w : World) (h : lunetteref11_Show.f a0_0 a0_1 a0_2 a0_3 a0_4 a0_5 = some r) :
    Calls Tryz.prog 73 #[.agg #[.string a0_0, .string a0_1, .string a0_2, .string a0_3, .string a0_4, .string a0_5]] w fun e w' => e = .returned (.string r) ∧ Below w.heap.size w w' := by
  unfold lunetteref11_Show.f at h
  split at h
  · rename_i hs
    obtain ⟨h0, h1, h2, h3, h4, h5⟩ := hs
    obtain rfl := Option.some.inj h
    clear h
    have hsu := Aside0.mk (show lunetteref11_ShowUser.f a0_3 a0_4 a0_5 = some (userText a0_3 a0_4 a0_5) from if_pos ⟨h3, h4, h5⟩)
    have hut := userText_size a0_3 a0_4 a0_5 h3 h4 h5
    have hu51 := Tryz.underlying51
    have hu49 := Tryz.underlying49
    have hsize : ∀ (t : ByteArray), True := fun _ => trivial
    unfold tupleText
    obtain ⟨u, hu⟩ : ∃ u, userText a0_3 a0_4 a0_5 = u := ⟨_, rfl⟩
    rw [hu] at hsu hut ⊢
    clear hu
    have q1 : (9223372036854775807 < a0_0.size + 1) = False := eq_false (by omega)
    have q2 : (9223372036854775807 < a0_0.size + 1 + a0_1.size) = False := eq_false (by omega)
    have q3 : (9223372036854775807 < a0_0.size + 1 + a0_1.size + 1) = False := eq_false (by omega)
    have q4 : (9223372036854775807 < a0_0.size + 1 + a0_1.size + 1 + a0_2.size) = False := eq_false (by omega)
    have q5 : (9223372036854775807 < a0_0.size + 1 + a0_1.size + 1 + a0_2.size + 1) = False := eq_false (by omega)
    have q6 : (9223372036854775807 < a0_0.size + 1 + a0_1.size + 1 + a0_2.size + 1 + u.size) = False := eq_false (by omega)
    have HB := Aside0.mk (below_alloc (Below.refl w.heap.size w) (.cells #[.string a0_0, .string a0_1, .string a0_2, .string a0_3, .string a0_4, .string a0_5] 51))
    go_enter Tryz.func73, Tryz.ntmps73
    go_wp2
    go_region_held3 (fun w' => w'.cell? ⟨w.heap.size, 0, none⟩ = some (.string a0_0) ∧ w'.cell? ⟨w.heap.size, 1, none⟩ = some (.string a0_1) ∧ w'.cell? ⟨w.heap.size, 2, none⟩ = some (.string a0_2) ∧ w'.cell? ⟨w.heap.size, 3, none⟩ = some (.string a0_3) ∧ w'.cell? ⟨w.heap.size, 4, none⟩ = some (.string a0_4) ∧ w'.cell? ⟨w.heap.size, 5, none⟩ = some (.string a0_5) ∧ Aside0 (Below w.heap.size w w')) (first | assumption | (refine ⟨?_, ?_, ?_, ?_, ?_, ?_, ⟨pw_below_drewN HB.out 1⟩⟩ <;> go_simp))
     (first | (go_at_call 85; refine (lunetteref11_ShowUser.calls a0_3 a0_4 a0_5 _ _ hsu.out).mono ?_; rintro e w' ⟨rfl, hb⟩; have hsx := six_keep hb (by assumption)))
    go_wp2
    go_ret
    rename_i hend
    exact ⟨rfl, hend.2.2.2.2.2.2.out⟩
  · exact absurd h (by simp)
end Go.Proofs.YtbdoafigggcdpaaGreatDoor.PScr
