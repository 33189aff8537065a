/- The walk of script.Check. No condition of ours. -/
import Derived.Test.YtbdoafigggcdpaaGreatDoorVM6
import Derived.Deep.DeepCutAuto
namespace Go.Proofs.YtbdoafigggcdpaaGreatDoor.PScr
open Go.RowKit Go.Proofs.YtbdoafigggcdpaaGreatDoorW.PrintWords Go.Proofs.YtbdoafigggcdpaaGreatDoorW.PrintLast Go.Proofs.YtbdoafigggcdpaaGreatDoorW.PrintMore
set_option linter.unusedVariables false
set_option linter.unusedSimpArgs false

def numbersOk (e : Ent) (xs : List Int) : Bool := if e.pairs then decide (xs.length % 2 = 0) && decide (xs.length ≤ 16) else decide ((xs.length : Int) = e.n)
def signs0 (e : Ent) (signs : ByteArray) : Bool := signs.toList == [] || (e.signs && (Lib.trimS signs.data.toList [43, 45] == []))
def signsOk (e : Ent) (signs : ByteArray) (n : Nat) : Bool := if e.signs then signs0 e signs && decide (signs.size = n) else signs0 e signs
def textOkE (e : Ent) (text : ByteArray) : Bool := if e.text then decide (2 ≤ text.size) && (decide (text.size ≤ 100) && textOk text) else text.toList == [] 
/-- has a line a text? as the program tells it -/
def checkE (e : Ent) (is : Bool) (xs : List Int) (ts : List S51) (signs text : ByteArray) : Bool :=
  is && (numbersOk e xs && (signsOk e signs ts.length && (textOkE e text && (!xs.any numBad && (!ts.any S51.bad && (decide (e.lo ≤ ts.length) && (decide ((ts.length : Int) ≤ e.hi) && (!e.bytes || decide (rd xs 2 ≤ 255)))))))))
/-- an entry that asks for a third number asks for three -/
def Ent.sane (e : Ent) : Prop := e.bytes = true → e.pairs = false ∧ e.n = 3

set_option maxRecDepth 100000 in
set_option maxHeartbeats 8000000 in
theorem checkL_any (word : ByteArray) (A1 : Option Addr) (c1 : Nat) (xs : List Int) (A2 : Option Addr) (c2 : Nat) (ts : List S51) (signs text : ByteArray)
    (hx : xs.length ≤ 1099511627776) (ht : ts.length ≤ 1099511627776) (hsg : signs.size ≤ 1099511627776) (htx : text.size ≤ 281474976710656) (w : World) (hE : EntsIn w) (hr1 : (Kd.int .i64).C w A1 xs.length xs) (hr2 : Kd.C k51 w A2 ts.length ts)
    (e : Ent) (is : Bool) (he : findE word = e) (hi : findB word = is) (hs : e.sane) :
    Calls Tryz.prog 10 #[.agg #[.string word, .slice A1 xs.length c1, .slice A2 ts.length c2, .string signs, .string text]] w fun e' w' => e' = .returned (.bool (checkE e is xs ts signs text)) ∧ Below w.heap.size w w' := by
  have hu29 := Tryz.underlying29
  have hu72 := Tryz.underlying72
  have HL := Aside0.mk (box_blk w #[.string word, .slice A1 xs.length c1, .slice A2 ts.length c2, .string signs, .string text] 29)
  have HB := Aside0.mk (below_alloc (Below.refl w.heap.size w) (.cells #[.string word, .slice A1 xs.length c1, .slice A2 ts.length c2, .string signs, .string text] 29))
  have hf := find_any word _ (hE.below HB.out)
  rw [he, hi] at hf
  have HR1 := Aside0.mk hr1; clear hr1
  have HR2 := Aside0.mk hr2; clear hr2
  have HS := Aside0.mk hs; clear hs
  have HE0 := Aside0.mk hE; clear hE
  clear he hi
  obtain ⟨ew, en, elo, ehi, es, et, ep, eb⟩ := e
  unfold Ent.vals at hf
  simp only [] at hf
  go_enter Tryz.func10, Tryz.ntmps10
  go_upto_region 4 with (first | (go_at_call 22; refine hf.mono ?_; rintro e' w1 ⟨rfl, hb⟩; have HL1 := Aside0.mk (blk_below HL.out hb); have HB1 := Aside0.mk (below_step HB.out hb); clear HL HB hb; have HL := HL1; have HB := HB1; clear HL1 HB1))
  have HE := Aside0.mk (box_blk w1 #[.string ew, .int .i64 en, .int .i64 elo, .int .i64 ehi, .bool es, .bool et, .bool ep, .bool eb] 72)
  have HB2 := Aside0.mk (below_alloc HB.out (.cells #[.string ew, .int .i64 en, .int .i64 elo, .int .i64 ehi, .bool es, .bool et, .bool ep, .bool eb] 72))
  have HL2 := Aside0.mk (blk_below HL.out (below_alloc (Below.refl _ _) (.cells #[.string ew, .int .i64 en, .int .i64 elo, .int .i64 ehi, .bool es, .bool et, .bool ep, .bool eb] 72)))
  have hgg : w.heap.size < w1.heap.size := by have := HB.out.size; have := blk_lt HL.out; omega
  clear HL HB
  generalize w1.alloc (.cells #[.string ew, .int .i64 en, .int .i64 elo, .int .i64 ehi, .bool es, .bool et, .bool ep, .bool eb] 72) = W2 at HE HB2 HL2 ⊢
  generalize w1.heap.size = g at HE hgg ⊢
  have l0 := (blk_cell HL2.out 0).trans rfl; have l1 := (blk_cell HL2.out 1).trans rfl; have l2 := (blk_cell HL2.out 2).trans rfl; have l3 := (blk_cell HL2.out 3).trans rfl; have l4 := (blk_cell HL2.out 4).trans rfl
  have e0 := (blk_cell HE.out 0).trans rfl; have e1 := (blk_cell HE.out 1).trans rfl; have e2 := (blk_cell HE.out 2).trans rfl; have e3 := (blk_cell HE.out 3).trans rfl; have e4 := (blk_cell HE.out 4).trans rfl; have e5 := (blk_cell HE.out 5).trans rfl; have e6 := (blk_cell HE.out 6).trans rfl; have e7 := (blk_cell HE.out 7).trans rfl;
  clear hf
  go_upto_if 23 with fail
  go_cut [7] (fun s7 wx => s7 = .bool (numbersOk ⟨ew, en, elo, ehi, es, et, ep, eb⟩ xs) ∧ wx = W2)
  case first =>
    cases ep
    · go_wp2
      go_meet
      exact ⟨by simp [numbersOk] <;> rfl, rfl⟩
    · by_cases h2 : xs.length % 2 = 0
      · have h3 : (xs.length : Int) % 2 = 0 := by omega
        by_cases h4 : xs.length ≤ 16
        · have h5 : (xs.length : Int) ≤ 16 := by omega
          go_wp2
          go_meet
          exact ⟨by simp [numbersOk, h2, h4], rfl⟩
        · have h5 : ¬ (xs.length : Int) ≤ 16 := by omega
          go_wp2
          go_meet
          exact ⟨by simp [numbersOk, h2, h4], rfl⟩
      · have h3 : ¬ (xs.length : Int) % 2 = 0 := by omega
        go_wp2
        go_meet
        exact ⟨by simp [numbersOk, h2], rfl⟩
  case rest =>
    obtain ⟨rfl, rfl⟩ := hcut
    obtain ⟨nb, hnb⟩ : ∃ nb, numbersOk ⟨ew, en, elo, ehi, es, et, ep, eb⟩ xs = nb := ⟨_, rfl⟩
    rw [hnb]
    have HNB := Aside0.mk hnb; clear hnb
    go_upto_region 7 with fail
    go_cut [8] (fun s8 wx => s8 = .bool (signs0 ⟨ew, en, elo, ehi, es, et, ep, eb⟩ signs) ∧ wx.heap[w.heap.size]? = some (.cells #[.string word, .slice A1 xs.length c1, .slice A2 ts.length c2, .string signs, .string text] 29 (0, 0)) ∧ wx.heap[g]? = some (.cells #[.string ew, .int .i64 en, .int .i64 elo, .int .i64 ehi, .bool es, .bool et, .bool ep, .bool eb] 72 (0, 0)) ∧ Below w.heap.size w wx)
    case first =>
      cases h1 : (signs.toList == [])
      · have htr := fun w => trim_any signs hsg w
        cases es
        · go_wp2
          go_meet
          exact ⟨by simp [signs0, h1], HL2.out, HE.out, HB2.out⟩
        · have hsz : (⟨(Lib.trimS signs.data.toList [43, 45]).toArray⟩ : ByteArray).toList = Lib.trimS signs.data.toList [43, 45] := by rw [ByteArray.toList_eq]
          obtain ⟨tr, htr0⟩ : ∃ tr, (⟨(Lib.trimS signs.data.toList [43, 45]).toArray⟩ : ByteArray) = tr := ⟨_, rfl⟩
          rw [htr0] at htr hsz
          clear htr0
          have HSZ := Aside0.mk hsz; clear hsz
          go_wp2_with (first | (go_at_call 26; refine (htr _).mono ?_; rintro e' w3 ⟨rfl, hb⟩; have HN := Aside0.mk (blk_below HL2.out hb); have HM := Aside0.mk (blk_below HE.out hb); have HO := Aside0.mk (below_step HB2.out hb); clear hb))
          go_meet
          exact ⟨by simp [signs0, h1, HSZ.out] <;> rfl, HN.out, HM.out, HO.out⟩
      · go_wp2
        go_meet
        exact ⟨by simp [signs0, h1], HL2.out, HE.out, HB2.out⟩
    case rest =>
      obtain ⟨rfl, HL3', HE3', HB3'⟩ := hcut
      have HL3 := Aside0.mk HL3'; have HE3 := Aside0.mk HE3'; have HB3 := Aside0.mk HB3'
      clear HL3' HE3' HB3' HL2 HE HB2 l0 l1 l2 l3 l4 e0 e1 e2 e3 e4 e5 e6 e7
      have l0 := (blk_cell HL3.out 0).trans rfl; have l1 := (blk_cell HL3.out 1).trans rfl; have l2 := (blk_cell HL3.out 2).trans rfl; have l3 := (blk_cell HL3.out 3).trans rfl; have l4 := (blk_cell HL3.out 4).trans rfl; have e0 := (blk_cell HE3.out 0).trans rfl; have e1 := (blk_cell HE3.out 1).trans rfl; have e2 := (blk_cell HE3.out 2).trans rfl; have e3 := (blk_cell HE3.out 3).trans rfl; have e4 := (blk_cell HE3.out 4).trans rfl; have e5 := (blk_cell HE3.out 5).trans rfl; have e6 := (blk_cell HE3.out 6).trans rfl; have e7 := (blk_cell HE3.out 7).trans rfl;
      obtain ⟨sb, hsb⟩ : ∃ sb, signs0 ⟨ew, en, elo, ehi, es, et, ep, eb⟩ signs = sb := ⟨_, rfl⟩
      rw [hsb]
      have HSB := Aside0.mk hsb; clear hsb
      go_upto_if 49 with fail
      go_cut [8] (fun s8 wx => s8 = .bool (signsOk ⟨ew, en, elo, ehi, es, et, ep, eb⟩ signs ts.length) ∧ wx = wc)
      case first =>
        cases es
        · go_wp2
          go_meet
          exact ⟨by simp [signsOk, HSB.out], rfl⟩
        · cases sb
          · go_wp2
            go_meet
            exact ⟨by simp [signsOk, HSB.out], rfl⟩
          · go_wp2
            go_meet
            exact ⟨by simp only [signsOk, HSB.out, if_true, Bool.true_and, Value.bool.injEq]; rw [Bool.eq_iff_iff]; simp; omega, rfl⟩
      case rest =>
        obtain ⟨rfl, rfl⟩ := hcut
        clear HSB
        obtain ⟨sg, hsg'⟩ : ∃ sg, signsOk ⟨ew, en, elo, ehi, es, et, ep, eb⟩ signs ts.length = sg := ⟨_, rfl⟩
        rw [hsg']
        have HSG := Aside0.mk hsg'; clear hsg'
        go_upto_region 10 with fail
        go_cut [9] (fun s9 wx => s9 = .bool (text.toList == [] && !et) ∧ wx = wc)
        case first =>
          cases h1 : (text.toList == [])
          · go_wp2
            go_meet
            exact ⟨by simp [h1], rfl⟩
          · cases et
            · go_wp2
              go_meet
              exact ⟨by simp [h1], rfl⟩
            · go_wp2
              go_meet
              exact ⟨by simp [h1], rfl⟩
        case rest =>
          obtain ⟨rfl, rfl⟩ := hcut
          go_upto_if 69 with fail
          go_cut [9] (fun s9 wx => s9 = .bool (textOkE ⟨ew, en, elo, ehi, es, et, ep, eb⟩ text) ∧ wx.heap[w.heap.size]? = some (.cells #[.string word, .slice A1 xs.length c1, .slice A2 ts.length c2, .string signs, .string text] 29 (0, 0)) ∧ wx.heap[g]? = some (.cells #[.string ew, .int .i64 en, .int .i64 elo, .int .i64 ehi, .bool es, .bool et, .bool ep, .bool eb] 72 (0, 0)) ∧ Below w.heap.size w wx)
          case first =>
            cases et
            · go_wp2
              go_meet
              exact ⟨by simp [textOkE], HL3.out, HE3.out, HB3.out⟩
            · by_cases h2 : 2 ≤ text.size
              · have h2' : (2 : Int) ≤ (text.size : Int) := by omega
                by_cases h3 : text.size ≤ 100
                · have h3' : (text.size : Int) ≤ 100 := by omega
                  have hru := fun w => runes_any text w
                  go_wp2_with (first | (go_at_call 27; refine (hru _).mono ?_; rintro e' w3 ⟨rfl, hb⟩; have HN := Aside0.mk (blk_below HL3.out hb); have HM := Aside0.mk (blk_below HE3.out hb); have HO := Aside0.mk (below_step HB3.out hb); clear hb))
                  go_meet
                  exact ⟨by simp [textOkE, h2, h3] <;> rfl, HN.out, HM.out, HO.out⟩
                · have h3' : ¬ (text.size : Int) ≤ 100 := by omega
                  go_wp2
                  go_meet
                  exact ⟨by simp [textOkE, h2, h3], HL3.out, HE3.out, HB3.out⟩
              · have h2' : ¬ (2 : Int) ≤ (text.size : Int) := by omega
                go_wp2
                go_meet
                exact ⟨by simp [textOkE, h2], HL3.out, HE3.out, HB3.out⟩
          case rest =>
            obtain ⟨rfl, HL4', HE4', HB4'⟩ := hcut
            have HL4 := Aside0.mk HL4'; have HE4 := Aside0.mk HE4'; have HB4 := Aside0.mk HB4'
            clear HL4' HE4' HB4' HL3 HE3 HB3 l0 l1 l2 l3 l4 e0 e1 e2 e3 e4 e5 e6 e7
            have l0 := (blk_cell HL4.out 0).trans rfl; have l1 := (blk_cell HL4.out 1).trans rfl; have l2 := (blk_cell HL4.out 2).trans rfl; have l3 := (blk_cell HL4.out 3).trans rfl; have l4 := (blk_cell HL4.out 4).trans rfl; have e0 := (blk_cell HE4.out 0).trans rfl; have e1 := (blk_cell HE4.out 1).trans rfl; have e2 := (blk_cell HE4.out 2).trans rfl; have e3 := (blk_cell HE4.out 3).trans rfl; have e4 := (blk_cell HE4.out 4).trans rfl; have e5 := (blk_cell HE4.out 5).trans rfl; have e6 := (blk_cell HE4.out 6).trans rfl; have e7 := (blk_cell HE4.out 7).trans rfl;
            obtain ⟨tb, htb⟩ : ∃ tb, textOkE ⟨ew, en, elo, ehi, es, et, ep, eb⟩ text = tb := ⟨_, rfl⟩
            rw [htb]
            have HTB := Aside0.mk htb; clear htb
            have hIc : (Kd.int .i64).C wc A1 xs.length xs := Kd.C_below HR1.out HB4.out
            have hTc : Kd.C k51 wc A2 ts.length ts := Kd.C_below HR2.out HB4.out
            have hI := anyI_any A1 c1 xs hx wc hIc
            have HTc := Aside0.mk hTc; clear hTc
            have HIc := Aside0.mk hIc; clear hIc
            clear HR1 HR2
            cases is
            · go_wp2
              go_ret
              exact ⟨by simp [checkE, show True from trivial] <;> rfl, HB4.out⟩
            cases nb
            · go_wp2
              go_ret
              exact ⟨by simp [checkE, HNB.out] <;> rfl, HB4.out⟩
            cases sg
            · go_wp2
              go_ret
              exact ⟨by simp [checkE, HNB.out, HSG.out] <;> rfl, HB4.out⟩
            cases tb
            · go_wp2
              go_ret
              exact ⟨by simp [checkE, HNB.out, HSG.out, HTB.out] <;> rfl, HB4.out⟩
            cases hai : xs.any numBad <;> rw [hai] at hI
            rotate_left
            · go_wp2_with (first | (go_at_call 29; refine hI.mono ?_; rintro e' w5 ⟨rfl, hb⟩; have HL5 := blk_below HL4.out hb; have HE5 := blk_below HE4.out hb; have HB5 := Aside0.mk (below_step HB4.out hb); have HT5 := Aside0.mk (Kd.C_below HTc.out hb); have HI5 := Aside0.mk (Kd.C_below HIc.out hb); clear hb; clear l0 l1 l2 l3 l4 e0 e1 e2 e3 e4 e5 e6 e7; have l0 := (blk_cell HL5 0).trans rfl; have l1 := (blk_cell HL5 1).trans rfl; have l2 := (blk_cell HL5 2).trans rfl; have l3 := (blk_cell HL5 3).trans rfl; have l4 := (blk_cell HL5 4).trans rfl; have e0 := (blk_cell HE5 0).trans rfl; have e1 := (blk_cell HE5 1).trans rfl; have e2 := (blk_cell HE5 2).trans rfl; have e3 := (blk_cell HE5 3).trans rfl; have e4 := (blk_cell HE5 4).trans rfl; have e5 := (blk_cell HE5 5).trans rfl; have e6 := (blk_cell HE5 6).trans rfl; have e7 := (blk_cell HE5 7).trans rfl; have HL5' := Aside0.mk HL5; have HE5' := Aside0.mk HE5; clear HL5 HE5))
              go_ret
              exact ⟨by simp [checkE, HNB.out, HSG.out, HTB.out, hai] <;> rfl, HB5.out⟩
            cases hat : ts.any S51.bad
            rotate_left
            · go_wp2_with (first | (go_at_call 29; refine hI.mono ?_; rintro e' w5 ⟨rfl, hb⟩; have HL5 := blk_below HL4.out hb; have HE5 := blk_below HE4.out hb; have HB5 := Aside0.mk (below_step HB4.out hb); have HT5 := Aside0.mk (Kd.C_below HTc.out hb); have HI5 := Aside0.mk (Kd.C_below HIc.out hb); clear hb; clear l0 l1 l2 l3 l4 e0 e1 e2 e3 e4 e5 e6 e7; have l0 := (blk_cell HL5 0).trans rfl; have l1 := (blk_cell HL5 1).trans rfl; have l2 := (blk_cell HL5 2).trans rfl; have l3 := (blk_cell HL5 3).trans rfl; have l4 := (blk_cell HL5 4).trans rfl; have e0 := (blk_cell HE5 0).trans rfl; have e1 := (blk_cell HE5 1).trans rfl; have e2 := (blk_cell HE5 2).trans rfl; have e3 := (blk_cell HE5 3).trans rfl; have e4 := (blk_cell HE5 4).trans rfl; have e5 := (blk_cell HE5 5).trans rfl; have e6 := (blk_cell HE5 6).trans rfl; have e7 := (blk_cell HE5 7).trans rfl; have HL5' := Aside0.mk HL5; have HE5' := Aside0.mk HE5; clear HL5 HE5) | (go_at_call 30; refine (anyT_any A2 c2 ts ht _ HT5.out).mono ?_; rintro e' w6 ⟨rfl, hb⟩; have HL6 := blk_below HL5'.out hb; have HE6 := blk_below HE5'.out hb; have HB6 := Aside0.mk (below_step HB5.out hb); have HI6 := Aside0.mk (Kd.C_below HI5.out hb); clear hb; clear l0 l1 l2 l3 l4 e0 e1 e2 e3 e4 e5 e6 e7; have l0 := (blk_cell HL6 0).trans rfl; have l1 := (blk_cell HL6 1).trans rfl; have l2 := (blk_cell HL6 2).trans rfl; have l3 := (blk_cell HL6 3).trans rfl; have l4 := (blk_cell HL6 4).trans rfl; have e0 := (blk_cell HE6 0).trans rfl; have e1 := (blk_cell HE6 1).trans rfl; have e2 := (blk_cell HE6 2).trans rfl; have e3 := (blk_cell HE6 3).trans rfl; have e4 := (blk_cell HE6 4).trans rfl; have e5 := (blk_cell HE6 5).trans rfl; have e6 := (blk_cell HE6 6).trans rfl; have e7 := (blk_cell HE6 7).trans rfl; clear HL6 HE6; rw [hat]))
              go_ret
              exact ⟨by simp [checkE, HNB.out, HSG.out, HTB.out, hai, hat] <;> rfl, HB6.out⟩
            by_cases h5 : elo ≤ (ts.length : Int)
            rotate_left
            · have d5 := decide_eq_false h5
              go_wp2_with (first | (go_at_call 29; refine hI.mono ?_; rintro e' w5 ⟨rfl, hb⟩; have HL5 := blk_below HL4.out hb; have HE5 := blk_below HE4.out hb; have HB5 := Aside0.mk (below_step HB4.out hb); have HT5 := Aside0.mk (Kd.C_below HTc.out hb); have HI5 := Aside0.mk (Kd.C_below HIc.out hb); clear hb; clear l0 l1 l2 l3 l4 e0 e1 e2 e3 e4 e5 e6 e7; have l0 := (blk_cell HL5 0).trans rfl; have l1 := (blk_cell HL5 1).trans rfl; have l2 := (blk_cell HL5 2).trans rfl; have l3 := (blk_cell HL5 3).trans rfl; have l4 := (blk_cell HL5 4).trans rfl; have e0 := (blk_cell HE5 0).trans rfl; have e1 := (blk_cell HE5 1).trans rfl; have e2 := (blk_cell HE5 2).trans rfl; have e3 := (blk_cell HE5 3).trans rfl; have e4 := (blk_cell HE5 4).trans rfl; have e5 := (blk_cell HE5 5).trans rfl; have e6 := (blk_cell HE5 6).trans rfl; have e7 := (blk_cell HE5 7).trans rfl; have HL5' := Aside0.mk HL5; have HE5' := Aside0.mk HE5; clear HL5 HE5) | (go_at_call 30; refine (anyT_any A2 c2 ts ht _ HT5.out).mono ?_; rintro e' w6 ⟨rfl, hb⟩; have HL6 := blk_below HL5'.out hb; have HE6 := blk_below HE5'.out hb; have HB6 := Aside0.mk (below_step HB5.out hb); have HI6 := Aside0.mk (Kd.C_below HI5.out hb); clear hb; clear l0 l1 l2 l3 l4 e0 e1 e2 e3 e4 e5 e6 e7; have l0 := (blk_cell HL6 0).trans rfl; have l1 := (blk_cell HL6 1).trans rfl; have l2 := (blk_cell HL6 2).trans rfl; have l3 := (blk_cell HL6 3).trans rfl; have l4 := (blk_cell HL6 4).trans rfl; have e0 := (blk_cell HE6 0).trans rfl; have e1 := (blk_cell HE6 1).trans rfl; have e2 := (blk_cell HE6 2).trans rfl; have e3 := (blk_cell HE6 3).trans rfl; have e4 := (blk_cell HE6 4).trans rfl; have e5 := (blk_cell HE6 5).trans rfl; have e6 := (blk_cell HE6 6).trans rfl; have e7 := (blk_cell HE6 7).trans rfl; clear HL6 HE6; rw [hat]))
              go_ret
              exact ⟨by simp only [checkE, HNB.out, HSG.out, HTB.out, hai, hat, d5]; rfl, HB6.out⟩
            have d5 := decide_eq_true h5
            by_cases h6 : (ts.length : Int) ≤ ehi
            rotate_left
            · have d6 := decide_eq_false h6
              go_wp2_with (first | (go_at_call 29; refine hI.mono ?_; rintro e' w5 ⟨rfl, hb⟩; have HL5 := blk_below HL4.out hb; have HE5 := blk_below HE4.out hb; have HB5 := Aside0.mk (below_step HB4.out hb); have HT5 := Aside0.mk (Kd.C_below HTc.out hb); have HI5 := Aside0.mk (Kd.C_below HIc.out hb); clear hb; clear l0 l1 l2 l3 l4 e0 e1 e2 e3 e4 e5 e6 e7; have l0 := (blk_cell HL5 0).trans rfl; have l1 := (blk_cell HL5 1).trans rfl; have l2 := (blk_cell HL5 2).trans rfl; have l3 := (blk_cell HL5 3).trans rfl; have l4 := (blk_cell HL5 4).trans rfl; have e0 := (blk_cell HE5 0).trans rfl; have e1 := (blk_cell HE5 1).trans rfl; have e2 := (blk_cell HE5 2).trans rfl; have e3 := (blk_cell HE5 3).trans rfl; have e4 := (blk_cell HE5 4).trans rfl; have e5 := (blk_cell HE5 5).trans rfl; have e6 := (blk_cell HE5 6).trans rfl; have e7 := (blk_cell HE5 7).trans rfl; have HL5' := Aside0.mk HL5; have HE5' := Aside0.mk HE5; clear HL5 HE5) | (go_at_call 30; refine (anyT_any A2 c2 ts ht _ HT5.out).mono ?_; rintro e' w6 ⟨rfl, hb⟩; have HL6 := blk_below HL5'.out hb; have HE6 := blk_below HE5'.out hb; have HB6 := Aside0.mk (below_step HB5.out hb); have HI6 := Aside0.mk (Kd.C_below HI5.out hb); clear hb; clear l0 l1 l2 l3 l4 e0 e1 e2 e3 e4 e5 e6 e7; have l0 := (blk_cell HL6 0).trans rfl; have l1 := (blk_cell HL6 1).trans rfl; have l2 := (blk_cell HL6 2).trans rfl; have l3 := (blk_cell HL6 3).trans rfl; have l4 := (blk_cell HL6 4).trans rfl; have e0 := (blk_cell HE6 0).trans rfl; have e1 := (blk_cell HE6 1).trans rfl; have e2 := (blk_cell HE6 2).trans rfl; have e3 := (blk_cell HE6 3).trans rfl; have e4 := (blk_cell HE6 4).trans rfl; have e5 := (blk_cell HE6 5).trans rfl; have e6 := (blk_cell HE6 6).trans rfl; have e7 := (blk_cell HE6 7).trans rfl; clear HL6 HE6; rw [hat]))
              go_ret
              exact ⟨by simp only [checkE, HNB.out, HSG.out, HTB.out, hai, hat, d5, d6]; rfl, HB6.out⟩
            have d6 := decide_eq_true h6
            cases eb
            · go_wp2_with (first | (go_at_call 29; refine hI.mono ?_; rintro e' w5 ⟨rfl, hb⟩; have HL5 := blk_below HL4.out hb; have HE5 := blk_below HE4.out hb; have HB5 := Aside0.mk (below_step HB4.out hb); have HT5 := Aside0.mk (Kd.C_below HTc.out hb); have HI5 := Aside0.mk (Kd.C_below HIc.out hb); clear hb; clear l0 l1 l2 l3 l4 e0 e1 e2 e3 e4 e5 e6 e7; have l0 := (blk_cell HL5 0).trans rfl; have l1 := (blk_cell HL5 1).trans rfl; have l2 := (blk_cell HL5 2).trans rfl; have l3 := (blk_cell HL5 3).trans rfl; have l4 := (blk_cell HL5 4).trans rfl; have e0 := (blk_cell HE5 0).trans rfl; have e1 := (blk_cell HE5 1).trans rfl; have e2 := (blk_cell HE5 2).trans rfl; have e3 := (blk_cell HE5 3).trans rfl; have e4 := (blk_cell HE5 4).trans rfl; have e5 := (blk_cell HE5 5).trans rfl; have e6 := (blk_cell HE5 6).trans rfl; have e7 := (blk_cell HE5 7).trans rfl; have HL5' := Aside0.mk HL5; have HE5' := Aside0.mk HE5; clear HL5 HE5) | (go_at_call 30; refine (anyT_any A2 c2 ts ht _ HT5.out).mono ?_; rintro e' w6 ⟨rfl, hb⟩; have HL6 := blk_below HL5'.out hb; have HE6 := blk_below HE5'.out hb; have HB6 := Aside0.mk (below_step HB5.out hb); have HI6 := Aside0.mk (Kd.C_below HI5.out hb); clear hb; clear l0 l1 l2 l3 l4 e0 e1 e2 e3 e4 e5 e6 e7; have l0 := (blk_cell HL6 0).trans rfl; have l1 := (blk_cell HL6 1).trans rfl; have l2 := (blk_cell HL6 2).trans rfl; have l3 := (blk_cell HL6 3).trans rfl; have l4 := (blk_cell HL6 4).trans rfl; have e0 := (blk_cell HE6 0).trans rfl; have e1 := (blk_cell HE6 1).trans rfl; have e2 := (blk_cell HE6 2).trans rfl; have e3 := (blk_cell HE6 3).trans rfl; have e4 := (blk_cell HE6 4).trans rfl; have e5 := (blk_cell HE6 5).trans rfl; have e6 := (blk_cell HE6 6).trans rfl; have e7 := (blk_cell HE6 7).trans rfl; clear HL6 HE6; rw [hat]))
              go_ret
              exact ⟨by simp only [checkE, HNB.out, HSG.out, HTB.out, hai, hat, d5, d6]; rfl, HB6.out⟩
            · obtain ⟨hp, hn⟩ := HS.out rfl
              simp only [] at hp hn
              have hlen := HNB.out
              unfold numbersOk at hlen
              rw [hp, hn] at hlen
              have hlen3 : xs.length = 3 := by
                have h8 : decide ((xs.length : Int) = 3) = true := hlen
                have h9 := of_decide_eq_true h8
                omega
              clear hlen
              obtain ⟨ad, rfl, g0'⟩ := Kd.at_int HIc.out 2 (by omega) (by omega)
              have g0 : wc.cell? ⟨ad.block, ad.off + 2, none⟩ = some (.int .i64 (rd xs 2)) := by
                have e2' : ad.add (2 : Int).toNat = ⟨ad.block, ad.off + 2, none⟩ := by simp [Addr.add]
                rw [← e2']; exact g0'
              have q2 : (2 : Int) < (xs.length : Int) := by omega
              clear g0' hp hn hlen3
              obtain ⟨x2, hx2⟩ : ∃ x, rd xs 2 = x := ⟨_, rfl⟩
              rw [hx2] at g0
              by_cases h7 : x2 ≤ 255
              · have d7 := decide_eq_true h7
                go_wp2_with (first | (go_at_call 29; refine hI.mono ?_; rintro e' w5 ⟨rfl, hb⟩; have HL5 := blk_below HL4.out hb; have HE5 := blk_below HE4.out hb; have HB5 := Aside0.mk (below_step HB4.out hb); have HT5 := Aside0.mk (Kd.C_below HTc.out hb); have HI5 := Aside0.mk (Kd.C_below HIc.out hb); have g1 := below_cell0 hb g0; clear g0; have g0 := g1; clear g1; clear hb; clear l0 l1 l2 l3 l4 e0 e1 e2 e3 e4 e5 e6 e7; have l0 := (blk_cell HL5 0).trans rfl; have l1 := (blk_cell HL5 1).trans rfl; have l2 := (blk_cell HL5 2).trans rfl; have l3 := (blk_cell HL5 3).trans rfl; have l4 := (blk_cell HL5 4).trans rfl; have e0 := (blk_cell HE5 0).trans rfl; have e1 := (blk_cell HE5 1).trans rfl; have e2 := (blk_cell HE5 2).trans rfl; have e3 := (blk_cell HE5 3).trans rfl; have e4 := (blk_cell HE5 4).trans rfl; have e5 := (blk_cell HE5 5).trans rfl; have e6 := (blk_cell HE5 6).trans rfl; have e7 := (blk_cell HE5 7).trans rfl; have HL5' := Aside0.mk HL5; have HE5' := Aside0.mk HE5; clear HL5 HE5) | (go_at_call 30; refine (anyT_any A2 c2 ts ht _ HT5.out).mono ?_; rintro e' w6 ⟨rfl, hb⟩; have HL6 := blk_below HL5'.out hb; have HE6 := blk_below HE5'.out hb; have HB6 := Aside0.mk (below_step HB5.out hb); have HI6 := Aside0.mk (Kd.C_below HI5.out hb); have g1 := below_cell0 hb g0; clear g0; have g0 := g1; clear g1; clear hb; clear l0 l1 l2 l3 l4 e0 e1 e2 e3 e4 e5 e6 e7; have l0 := (blk_cell HL6 0).trans rfl; have l1 := (blk_cell HL6 1).trans rfl; have l2 := (blk_cell HL6 2).trans rfl; have l3 := (blk_cell HL6 3).trans rfl; have l4 := (blk_cell HL6 4).trans rfl; have e0 := (blk_cell HE6 0).trans rfl; have e1 := (blk_cell HE6 1).trans rfl; have e2 := (blk_cell HE6 2).trans rfl; have e3 := (blk_cell HE6 3).trans rfl; have e4 := (blk_cell HE6 4).trans rfl; have e5 := (blk_cell HE6 5).trans rfl; have e6 := (blk_cell HE6 6).trans rfl; have e7 := (blk_cell HE6 7).trans rfl; clear HL6 HE6; rw [hat]))
                go_ret
                exact ⟨by simp only [checkE, HNB.out, HSG.out, HTB.out, hai, hat, d5, d6, hx2, d7]; rfl, HB6.out⟩
              · have d7 := decide_eq_false h7
                go_wp2_with (first | (go_at_call 29; refine hI.mono ?_; rintro e' w5 ⟨rfl, hb⟩; have HL5 := blk_below HL4.out hb; have HE5 := blk_below HE4.out hb; have HB5 := Aside0.mk (below_step HB4.out hb); have HT5 := Aside0.mk (Kd.C_below HTc.out hb); have HI5 := Aside0.mk (Kd.C_below HIc.out hb); have g1 := below_cell0 hb g0; clear g0; have g0 := g1; clear g1; clear hb; clear l0 l1 l2 l3 l4 e0 e1 e2 e3 e4 e5 e6 e7; have l0 := (blk_cell HL5 0).trans rfl; have l1 := (blk_cell HL5 1).trans rfl; have l2 := (blk_cell HL5 2).trans rfl; have l3 := (blk_cell HL5 3).trans rfl; have l4 := (blk_cell HL5 4).trans rfl; have e0 := (blk_cell HE5 0).trans rfl; have e1 := (blk_cell HE5 1).trans rfl; have e2 := (blk_cell HE5 2).trans rfl; have e3 := (blk_cell HE5 3).trans rfl; have e4 := (blk_cell HE5 4).trans rfl; have e5 := (blk_cell HE5 5).trans rfl; have e6 := (blk_cell HE5 6).trans rfl; have e7 := (blk_cell HE5 7).trans rfl; have HL5' := Aside0.mk HL5; have HE5' := Aside0.mk HE5; clear HL5 HE5) | (go_at_call 30; refine (anyT_any A2 c2 ts ht _ HT5.out).mono ?_; rintro e' w6 ⟨rfl, hb⟩; have HL6 := blk_below HL5'.out hb; have HE6 := blk_below HE5'.out hb; have HB6 := Aside0.mk (below_step HB5.out hb); have HI6 := Aside0.mk (Kd.C_below HI5.out hb); have g1 := below_cell0 hb g0; clear g0; have g0 := g1; clear g1; clear hb; clear l0 l1 l2 l3 l4 e0 e1 e2 e3 e4 e5 e6 e7; have l0 := (blk_cell HL6 0).trans rfl; have l1 := (blk_cell HL6 1).trans rfl; have l2 := (blk_cell HL6 2).trans rfl; have l3 := (blk_cell HL6 3).trans rfl; have l4 := (blk_cell HL6 4).trans rfl; have e0 := (blk_cell HE6 0).trans rfl; have e1 := (blk_cell HE6 1).trans rfl; have e2 := (blk_cell HE6 2).trans rfl; have e3 := (blk_cell HE6 3).trans rfl; have e4 := (blk_cell HE6 4).trans rfl; have e5 := (blk_cell HE6 5).trans rfl; have e6 := (blk_cell HE6 6).trans rfl; have e7 := (blk_cell HE6 7).trans rfl; clear HL6 HE6; rw [hat]))
                go_ret
                exact ⟨by simp only [checkE, HNB.out, HSG.out, HTB.out, hai, hat, d5, d6, hx2, d7]; rfl, HB6.out⟩
end Go.Proofs.YtbdoafigggcdpaaGreatDoor.PScr
