/- The walks of tuple.Show. No condition of ours. -/
import Derived.Test.YtbdoafigggcdpaaGreatDoorVM2
import Derived.Deep.RegionHeld3
import Derived.Test.YtbdoafigggcdpaaGreatDoorVRS
namespace Go.Proofs.YtbdoafigggcdpaaGreatDoor.PScr
open Go.RowKit Go.Proofs.YtbdoafigggcdpaaGreatDoorW.PrintWords Go.Proofs.YtbdoafigggcdpaaGreatDoorW.PrintLast Go.Proofs.YtbdoafigggcdpaaGreatDoorW.PrintMore
set_option linter.unusedVariables false
set_option linter.unusedSimpArgs false

theorem tuple_sizes {a b c d e f : ByteArray} (h : tupleOk a b c d e f = true) : a.size ≤ 100 ∧ b.size ≤ 100 ∧ c.size ≤ 100 ∧ 0 < c.size ∧ d.size ≤ 100 ∧ e.size ≤ 100 ∧ f.size ≤ 100 := by
  unfold tupleOk at h
  simp only [Bool.and_eq_true] at h
  obtain ⟨h1, h2, h3, h4⟩ := h
  have a1 := (made_size h1).1
  have a2 := (made_size h2).1
  have a3 := made_size h3
  have a4 := user_sizes h4
  omega
theorem tuple_userText (a b c d e f : ByteArray) (hc : 0 < c.size) : userText a b c ++ ⟨#[64]⟩ ++ userText d e f = tupleText a b c d e f := by
  have : ¬ c.toList = [] := by
    intro h
    rw [ByteArray.toList_eq] at h
    have := congrArg List.length h
    rw [Array.length_toList] at this
    have : c.size = 0 := this
    omega
  unfold tupleText
  rw [show userText a b c = a ++ ⟨#[58]⟩ ++ b ++ ⟨#[35]⟩ ++ c by unfold userText; rw [if_neg this]]
set_option maxRecDepth 100000 in
set_option maxHeartbeats 800000 in
theorem showTuple_any (a b c d e f : ByteArray) (w : World) :
    Calls Tryz.prog 43 #[.agg #[.string a, .string b, .string c, .string d, .string e, .string f]] w fun e' w' => e' = .returned (.tuple #[.string (if tupleOk a b c d e f then tupleText a b c d e f else ⟨#[]⟩), .int .i64 (if tupleOk a b c d e f then 0 else 111)]) ∧ Below w.heap.size w w' := by
  have hu49 := Tryz.underlying49
  have hu51 := Tryz.underlying51
  have HK := Aside0.mk (box_blk w #[.string a, .string b, .string c, .string d, .string e, .string f] 51)
  have HB := Aside0.mk (below_alloc (Below.refl w.heap.size w) (.cells #[.string a, .string b, .string c, .string d, .string e, .string f] 51))
  have hchk := fun w => check_any a b c d e f w
  cases h1 : tupleOk a b c d e f <;> rw [h1] at hchk
  · go_enter Tryz.func43, Tryz.ntmps43
    go_wp2_with (first | (go_at_call 25; refine (hchk _).mono ?_; rintro e w' ⟨rfl, hb⟩; have HN := blk_below HK.out hb; have HM := below_step HB.out hb; clear HB hb HK; have c0 := (blk_cell HN 0).trans rfl; have c1 := (blk_cell HN 1).trans rfl; have c2 := (blk_cell HN 2).trans rfl; have c3 := (blk_cell HN 3).trans rfl; have c4 := (blk_cell HN 4).trans rfl; have c5 := (blk_cell HN 5).trans rfl; have HK := Aside0.mk HN; have HB := Aside0.mk HM; clear HN HM; skip))
    go_ret2
    exact ⟨rfl, HB.out⟩
  · obtain ⟨s0, s1, s2, s3, s4, s5, s6⟩ := tuple_sizes h1
    have hut1 := userText_size a b c s0 s1 s2
    have hut2 := userText_size d e f s4 s5 s6
    have ht1 := fun w => text_any a b c s0 s1 s2 w
    have ht2 := fun w => text_any d e f s4 s5 s6 w
    have hcat := Aside0.mk (tuple_userText a b c d e f s3)
    obtain ⟨u1, hu1⟩ : ∃ u, userText a b c = u := ⟨_, rfl⟩
    obtain ⟨u2, hu2⟩ : ∃ u, userText d e f = u := ⟨_, rfl⟩
    rw [hu1] at hut1 ht1 hcat
    rw [hu2] at hut2 ht2 hcat
    have q1 : (9223372036854775807 < u1.size + 1) = False := eq_false (by omega)
    have q2 : (9223372036854775807 < u1.size + 1 + u2.size) = False := eq_false (by omega)
    clear hu1 hu2
    go_enter Tryz.func43, Tryz.ntmps43
    go_wp2_with (first | (go_at_call 25; refine (hchk _).mono ?_; rintro e w' ⟨rfl, hb⟩; have HN := blk_below HK.out hb; have HM := below_step HB.out hb; clear HB hb HK; have c0 := (blk_cell HN 0).trans rfl; have c1 := (blk_cell HN 1).trans rfl; have c2 := (blk_cell HN 2).trans rfl; have c3 := (blk_cell HN 3).trans rfl; have c4 := (blk_cell HN 4).trans rfl; have c5 := (blk_cell HN 5).trans rfl; have HK := Aside0.mk HN; have HB := Aside0.mk HM; clear HN HM; skip))
    go_region_held3 (fun w' => w'.cell? ⟨w.heap.size, 0, none⟩ = some (.string a) ∧ w'.cell? ⟨w.heap.size, 1, none⟩ = some (.string b) ∧ w'.cell? ⟨w.heap.size, 2, none⟩ = some (.string c) ∧ w'.cell? ⟨w.heap.size, 3, none⟩ = some (.string d) ∧ w'.cell? ⟨w.heap.size, 4, none⟩ = some (.string e) ∧ w'.cell? ⟨w.heap.size, 5, none⟩ = some (.string f) ∧ Aside0 (Below w.heap.size w w')) (first | assumption | (exact ⟨c0, c1, c2, c3, c4, c5, ⟨by repeat (first | exact HB.out | apply pw_below_drewN | apply below_drew1)⟩⟩))
     (first | (go_at_call 81; with_reducible refine (ht1 _).mono ?_; rintro e w' ⟨rfl, hb⟩; have hsx := six_keep hb (by assumption)) | (go_at_call 81; with_reducible refine (ht2 _).mono ?_; rintro e w' ⟨rfl, hb⟩; have hsx := six_keep hb (by assumption)))
    all_goals (
      go_wp2
      go_ret2
      rename_i hend
      exact ⟨by rw [← hcat.out]; rfl, hend.2.2.2.2.2.2.out⟩)
end Go.Proofs.YtbdoafigggcdpaaGreatDoor.PScr
