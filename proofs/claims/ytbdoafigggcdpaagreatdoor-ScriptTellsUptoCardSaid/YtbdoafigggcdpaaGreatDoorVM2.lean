/- The walks of tuple's checks and texts. No condition of ours. -/
import Derived.Test.YtbdoafigggcdpaaGreatDoorVM1
import Derived.Test.YtbdoafigggcdpaaGreatDoorVRS
namespace Go.Proofs.YtbdoafigggcdpaaGreatDoor.PScr
open Go.RowKit Go.Proofs.YtbdoafigggcdpaaGreatDoorW.PrintWords Go.Proofs.YtbdoafigggcdpaaGreatDoorW.PrintLast Go.Proofs.YtbdoafigggcdpaaGreatDoorW.PrintMore
set_option linter.unusedVariables false
set_option linter.unusedSimpArgs false

def userOk (k i r : ByteArray) : Bool := nameOk k && (idOk i && (r.toList == [] || nameOk r))
def tupleOk (a b c d e f : ByteArray) : Bool := nameOk a && (idOk b && (nameOk c && userOk d e f))

theorem box_blk (w : World) (cs : Array Value) (t : TypeId) : (w.alloc (.cells cs t)).heap[w.heap.size]? = some (.cells cs t (0, 0)) := blk_new _ _

set_option maxRecDepth 100000 in
set_option maxHeartbeats 800000 in
theorem user_any (k i r : ByteArray) (w : World) :
    Calls Tryz.prog 57 #[.agg #[.string k, .string i, .string r]] w fun e w' => e = .returned (.bool (userOk k i r)) ∧ Below w.heap.size w w' := by
  have hu49 := Tryz.underlying49
  have HK := Aside0.mk (box_blk w #[.string k, .string i, .string r] 49)
  have HB := Aside0.mk (below_alloc (Below.refl w.heap.size w) (.cells #[.string k, .string i, .string r] 49))
  unfold userOk
  cases h1 : nameOk k <;> cases h2 : idOk i <;> cases h3 : (r.toList == []) <;> cases h4 : nameOk r
  all_goals (
    go_enter Tryz.func57, Tryz.ntmps57
    go_wp2_with (first | (go_at_call 55; refine (name_any k _).mono ?_; rintro e w' ⟨rfl, hb⟩; have HN := blk_below HK.out hb; have HM := below_step HB.out hb; clear HB hb HK; have c0 := (blk_cell HN 0).trans rfl; have c1 := (blk_cell HN 1).trans rfl; have c2 := (blk_cell HN 2).trans rfl; have HK := Aside0.mk HN; have HB := Aside0.mk HM; clear HN HM; rw [h1]) | (go_at_call 56; refine (id_any i _).mono ?_; rintro e w' ⟨rfl, hb⟩; have HN := blk_below HK.out hb; have HM := below_step HB.out hb; clear HB hb HK; have c0 := (blk_cell HN 0).trans rfl; have c1 := (blk_cell HN 1).trans rfl; have c2 := (blk_cell HN 2).trans rfl; have HK := Aside0.mk HN; have HB := Aside0.mk HM; clear HN HM; rw [h2]) | (go_at_call 55; refine (name_any r _).mono ?_; rintro e w' ⟨rfl, hb⟩; have HN := blk_below HK.out hb; have HM := below_step HB.out hb; clear HB hb HK; have c0 := (blk_cell HN 0).trans rfl; have c1 := (blk_cell HN 1).trans rfl; have c2 := (blk_cell HN 2).trans rfl; have HK := Aside0.mk HN; have HB := Aside0.mk HM; clear HN HM; rw [h4]))
    go_ret
    exact ⟨by simp <;> rfl, HB.out⟩)

set_option maxRecDepth 100000 in
set_option maxHeartbeats 800000 in
theorem check_any (a b c d e f : ByteArray) (w : World) :
    Calls Tryz.prog 25 #[.agg #[.string a, .string b, .string c, .string d, .string e, .string f]] w fun e' w' => e' = .returned (.int .i64 (if tupleOk a b c d e f then 0 else 111)) ∧ Below w.heap.size w w' := by
  have hu51 := Tryz.underlying51
  have HK := Aside0.mk (box_blk w #[.string a, .string b, .string c, .string d, .string e, .string f] 51)
  have HB := Aside0.mk (below_alloc (Below.refl w.heap.size w) (.cells #[.string a, .string b, .string c, .string d, .string e, .string f] 51))
  unfold tupleOk
  cases h1 : nameOk a <;> cases h2 : idOk b <;> cases h3 : nameOk c <;> cases h4 : userOk d e f
  all_goals (
    go_enter Tryz.func25, Tryz.ntmps25
    go_wp2_with (first | (go_at_call 55; refine (name_any a _).mono ?_; rintro e w' ⟨rfl, hb⟩; have HN := blk_below HK.out hb; have HM := below_step HB.out hb; clear HB hb HK; have c0 := (blk_cell HN 0).trans rfl; have c1 := (blk_cell HN 1).trans rfl; have c2 := (blk_cell HN 2).trans rfl; have c3 := (blk_cell HN 3).trans rfl; have c4 := (blk_cell HN 4).trans rfl; have c5 := (blk_cell HN 5).trans rfl; have HK := Aside0.mk HN; have HB := Aside0.mk HM; clear HN HM; rw [h1]) | (go_at_call 56; refine (id_any b _).mono ?_; rintro e w' ⟨rfl, hb⟩; have HN := blk_below HK.out hb; have HM := below_step HB.out hb; clear HB hb HK; have c0 := (blk_cell HN 0).trans rfl; have c1 := (blk_cell HN 1).trans rfl; have c2 := (blk_cell HN 2).trans rfl; have c3 := (blk_cell HN 3).trans rfl; have c4 := (blk_cell HN 4).trans rfl; have c5 := (blk_cell HN 5).trans rfl; have HK := Aside0.mk HN; have HB := Aside0.mk HM; clear HN HM; rw [h2]) | (go_at_call 55; refine (name_any c _).mono ?_; rintro e w' ⟨rfl, hb⟩; have HN := blk_below HK.out hb; have HM := below_step HB.out hb; clear HB hb HK; have c0 := (blk_cell HN 0).trans rfl; have c1 := (blk_cell HN 1).trans rfl; have c2 := (blk_cell HN 2).trans rfl; have c3 := (blk_cell HN 3).trans rfl; have c4 := (blk_cell HN 4).trans rfl; have c5 := (blk_cell HN 5).trans rfl; have HK := Aside0.mk HN; have HB := Aside0.mk HM; clear HN HM; rw [h3]) | (go_at_call 57; refine (user_any d e f _).mono ?_; rintro e w' ⟨rfl, hb⟩; have HN := blk_below HK.out hb; have HM := below_step HB.out hb; clear HB hb HK; have c0 := (blk_cell HN 0).trans rfl; have c1 := (blk_cell HN 1).trans rfl; have c2 := (blk_cell HN 2).trans rfl; have c3 := (blk_cell HN 3).trans rfl; have c4 := (blk_cell HN 4).trans rfl; have c5 := (blk_cell HN 5).trans rfl; have HK := Aside0.mk HN; have HB := Aside0.mk HM; clear HN HM; rw [h4]))
    go_ret
    exact ⟨by simp <;> rfl, HB.out⟩)

theorem ba_ext {a b : ByteArray} (h : a.data.toList = b.data.toList) : a = b := by cases a; cases b; simp only [ByteArray.mk.injEq]; exact Array.ext' h
theorem ba_assoc (a b c : ByteArray) : a ++ b ++ c = a ++ (b ++ c) := by
  apply ba_ext; simp
set_option maxRecDepth 100000 in
theorem text_any (k i r : ByteArray) (h0 : k.size ≤ 100) (h1 : i.size ≤ 100) (h2 : r.size ≤ 100) (w : World) :
    Calls Tryz.prog 81 #[.agg #[.string k, .string i, .string r]] w fun e w' => e = .returned (.string (userText k i r)) ∧ Below w.heap.size w w' := by
  have hu49 := Tryz.underlying49
  unfold userText
  by_cases he : r.toList = []
  · rw [if_pos he]
    have he1 : (r.toList != []) = false := by rw [he]; rfl
    have he2 : r.toList.isEmpty = true := by rw [he]; rfl
    go_enter Tryz.func81, Tryz.ntmps81
    go_wp2
    go_ret
    exact ⟨rfl, by repeat (first | exact Below.refl _ _ | apply below_alloc | apply pw_below_drewN | apply below_drew1)⟩
  · rw [if_neg he]
    have he1 : (r.toList != []) = true := bne_iff_ne.2 he
    have he2 : r.toList.isEmpty = false := by simpa using he
    have hs := ba_assoc (k ++ ⟨#[58]⟩ ++ i) ⟨#[35]⟩ r
    go_enter Tryz.func81, Tryz.ntmps81
    go_wp2
    go_ret
    exact ⟨by rw [hs]; rfl, by repeat (first | exact Below.refl _ _ | apply below_alloc | apply pw_below_drewN | apply below_drew1)⟩

theorem user_sizes {k i r : ByteArray} (h : userOk k i r = true) : k.size ≤ 100 ∧ i.size ≤ 100 ∧ r.size ≤ 100 := by
  unfold userOk at h
  simp only [Bool.and_eq_true, Bool.or_eq_true] at h
  obtain ⟨h1, h2, h3⟩ := h
  have a1 := (made_size h1).1
  have a2 := (made_size h2).1
  have a3 : r.size ≤ 12 := by
    rcases h3 with h3 | h3
    · have : r.toList = [] := by simpa using h3
      rw [ByteArray.toList_eq] at this
      have := congrArg List.length this
      rw [Array.length_toList] at this
      have : r.size = 0 := this
      omega
    · exact (made_size h3).1
  omega
set_option maxRecDepth 100000 in
set_option maxHeartbeats 800000 in
theorem showUser_any (k i r : ByteArray) (w : World) :
    Calls Tryz.prog 44 #[.agg #[.string k, .string i, .string r]] w fun e w' => e = .returned (.tuple #[.string (if userOk k i r then userText k i r else ⟨#[]⟩), .int .i64 (if userOk k i r then 0 else 111)]) ∧ Below w.heap.size w w' := by
  have hu49 := Tryz.underlying49
  have HK := Aside0.mk (box_blk w #[.string k, .string i, .string r] 49)
  have HB := Aside0.mk (below_alloc (Below.refl w.heap.size w) (.cells #[.string k, .string i, .string r] 49))
  cases h1 : userOk k i r
  · go_enter Tryz.func44, Tryz.ntmps44
    go_wp2_with (first | (go_at_call 57; refine (user_any k i r _).mono ?_; rintro e w' ⟨rfl, hb⟩; have HN := blk_below HK.out hb; have HM := below_step HB.out hb; clear HB hb HK; have c0 := (blk_cell HN 0).trans rfl; have c1 := (blk_cell HN 1).trans rfl; have c2 := (blk_cell HN 2).trans rfl; have HK := Aside0.mk HN; have HB := Aside0.mk HM; clear HN HM; rw [h1]))
    go_ret2
    exact ⟨rfl, HB.out⟩
  · obtain ⟨s0, s1, s2⟩ := user_sizes h1
    go_enter Tryz.func44, Tryz.ntmps44
    go_wp2_with (first | (go_at_call 57; refine (user_any k i r _).mono ?_; rintro e w' ⟨rfl, hb⟩; have HN := blk_below HK.out hb; have HM := below_step HB.out hb; clear HB hb HK; have c0 := (blk_cell HN 0).trans rfl; have c1 := (blk_cell HN 1).trans rfl; have c2 := (blk_cell HN 2).trans rfl; have HK := Aside0.mk HN; have HB := Aside0.mk HM; clear HN HM; rw [h1]) | (go_at_call 81; refine (text_any k i r s0 s1 s2 _).mono ?_; rintro e w' ⟨rfl, hb⟩; have HN := blk_below HK.out hb; have HM := below_step HB.out hb; clear HB hb HK; have c0 := (blk_cell HN 0).trans rfl; have c1 := (blk_cell HN 1).trans rfl; have c2 := (blk_cell HN 2).trans rfl; have HK := Aside0.mk HN; have HB := Aside0.mk HM; clear HN HM; skip))
    go_ret2
    exact ⟨rfl, HB.out⟩
end Go.Proofs.YtbdoafigggcdpaaGreatDoor.PScr
