/- The walks of the closures of script.Check, and of the searches that use them. No condition of ours. -/
import Derived.Test.YtbdoafigggcdpaaGreatDoorVM5
import Derived.Shelf.Strings.SlTrimAscii
namespace Go.Proofs.YtbdoafigggcdpaaGreatDoor.PScr
open Go.RowKit Go.Proofs.YtbdoafigggcdpaaGreatDoorW.PrintWords Go.Proofs.YtbdoafigggcdpaaGreatDoorW.PrintLast Go.Proofs.YtbdoafigggcdpaaGreatDoorW.PrintMore
set_option linter.unusedVariables false
set_option linter.unusedSimpArgs false

def numBad (n : Int) : Bool := decide (n < 0) || decide (1000000 < n)
def S51.bad (t : S51) : Bool := !tupleOk t.f0 t.f1 t.f2 t.f3.f0 t.f3.f1 t.f3.f2
def runeBad (c : Nat) : Bool := decide (c < 32) || decide (126 < c)

theorem check1_any (n : Int) (w : World) : Calls Tryz.prog 23 #[.int .i64 n] w fun e w' => e = .returned (.bool (numBad n)) ∧ w' = w := by
  unfold numBad
  cases h1 : decide (n < 0) <;> cases h2 : decide (1000000 < n)
  all_goals (
    go_enter Tryz.func23, Tryz.ntmps23
    go_wp2
    go_ret
    exact ⟨by simp, rfl⟩)
theorem check3_any (c : Nat) (w : World) : Calls Tryz.prog 28 #[.int .i32 c] w fun e w' => e = .returned (.bool (runeBad c)) ∧ w' = w := by
  unfold runeBad
  have e1 : decide ((c : Int) < 32) = decide (c < 32) := by simp; omega
  have e2 : decide (126 < (c : Int)) = decide (126 < c) := by simp; omega
  cases h1 : decide (c < 32) <;> cases h2 : decide (126 < c) <;> rw [h1] at e1 <;> rw [h2] at e2
  all_goals (
    go_enter Tryz.func28, Tryz.ntmps28
    go_wp2
    go_ret
    exact ⟨by simp, rfl⟩)
theorem check2_any (t : S51) (w : World) : Calls Tryz.prog 24 #[aggT t.f0 t.f1 t.f2 t.f3.f0 t.f3.f1 t.f3.f2] w fun e w' => e = .returned (.bool t.bad) ∧ Below w.heap.size w w' := by
  have hu51 := Tryz.underlying51
  have hchk := fun w => check_any t.f0 t.f1 t.f2 t.f3.f0 t.f3.f1 t.f3.f2 w
  have HB := Aside0.mk (below_alloc (Below.refl w.heap.size w) (.cells #[.string t.f0, .string t.f1, .string t.f2, .string t.f3.f0, .string t.f3.f1, .string t.f3.f2] 51))
  unfold S51.bad aggT
  cases h1 : tupleOk t.f0 t.f1 t.f2 t.f3.f0 t.f3.f1 t.f3.f2 <;> rw [h1] at hchk
  all_goals (
    go_enter Tryz.func24, Tryz.ntmps24
    go_wp2_with (first | (go_at_call 25; refine (hchk _).mono ?_; rintro e w' ⟨rfl, hb⟩; have HC := Aside0.mk (below_step HB.out hb); clear hb))
    go_ret
    exact ⟨rfl, HC.out⟩)

/-- the first tuple that may not be, from i on -/
def idxT (ts : List S51) : Nat → Nat → Int
  | 0, _ => -1
  | k + 1, i => if (rd_T51 ts (i : Int)).bad then (i : Int) else idxT ts k (i + 1)
theorem idxT_step (ts : List S51) (k i : Nat) : idxT ts (k + 1) i = if (rd_T51 ts (i : Int)).bad then (i : Int) else idxT ts k (i + 1) := rfl
theorem idxT_any (ts : List S51) : ∀ k i, i + k = ts.length → decide (0 ≤ idxT ts k i) = (ts.drop i).any S51.bad
  | 0, i, h => by
    rw [List.drop_of_length_le (by omega)]; rfl
  | k + 1, i, h => by
    have hlt : i < ts.length := by omega
    rw [idxT_step, List.drop_eq_getElem_cons hlt, List.any_cons]
    have e : rd_T51 ts (i : Int) = ts[i] := by unfold rd_T51; simp [hlt]
    rw [e]
    cases hb : ts[i].bad
    · simp only [Bool.false_or]
      rw [if_neg (by simp)]
      exact idxT_any ts k (i + 1) (by omega)
    · rw [if_pos rfl]; simp

set_option maxRecDepth 100000 in
set_option maxHeartbeats 800000 in
theorem indexT_any (A : Option Addr) (c : Nat) (ts : List S51) (hl : ts.length ≤ 1099511627776) (w : World) (hr : Kd.C k51 w A ts.length ts) :
    Calls Tryz.prog 67 #[.slice A ts.length c, .func (.func 24) #[] #[]] w fun e' w' => e' = .returned (.int .i64 (idxT ts ts.length 0)) ∧ Below w.heap.size w w' := by
  have hu51 := Tryz.underlying51
  have HR := Aside0.mk hr; clear hr
  go_enter Tryz.func67, Tryz.ntmps67
  go_wp2
  go_loopw [8] (fun v wr => ∃ i : Nat, v = .int .i64 i ∧ i ≤ ts.length ∧ Aside0 (idxT ts (ts.length - i) i = idxT ts ts.length 0) ∧ Below w.heap.size w wr) (fun v _ => ts.length - (intOf v).toNat)
  case atStart => exact ⟨0, rfl, by omega, ⟨rfl⟩, Below.refl _ _⟩
  case round =>
    obtain ⟨i, rfl, hi, HI, hb⟩ := hrel
    have HB := Aside0.mk hb; clear hb
    by_cases hlt : i < ts.length
    · have hx := HI.out
      obtain ⟨k, hk⟩ : ∃ k, ts.length - i = k + 1 := ⟨ts.length - i - 1, by omega⟩
      rw [hk, idxT_step] at hx
      have hk' : ts.length - (i + 1) = k := by omega
      have HK' := Aside0.mk hk'; clear hk' hk
      obtain ⟨ad, rfl, g0, g1, g2, g3, g4, g5⟩ := at_T51 HR.out (i : Int) (by omega) (by omega)
      have q1 : (i : Int) < (ts.length : Int) := by omega
      replace g0 := below_cell0 HB.out g0
      replace g1 := below_cell0 HB.out g1
      replace g2 := below_cell0 HB.out g2
      replace g3 := below_cell0 HB.out g3
      replace g4 := below_cell0 HB.out g4
      replace g5 := below_cell0 HB.out g5
      have hcl := fun w => check2_any (rd_T51 ts (i : Int)) w
      unfold aggT at hcl
      obtain ⟨t, ht⟩ : ∃ t, rd_T51 ts (i : Int) = t := ⟨_, rfl⟩
      rw [ht] at hx g0 g1 g2 g3 g4 g5 hcl
      have e5 : ((i : Int)).toNat = i := by simp
      rw [e5] at g0 g1 g2 g3 g4 g5
      clear ht e5
      cases hq : t.bad <;> simp only [hq] at hcl
      · rw [hq] at hx
        have HX := Aside0.mk hx; clear hx
        go_wp2_with (first | (go_at_call 24; refine (hcl _).mono ?_; rintro e' w' ⟨rfl, hb⟩))
        exact ⟨⟨i + 1, rfl, by omega, ⟨by rw [HK'.out]; simpa using HX.out⟩, below_step HB.out hb⟩, by simp [intOf]; omega⟩
      · rw [hq, if_pos rfl] at hx
        have HX := Aside0.mk hx; clear hx
        go_wp2_with (first | (go_at_call 24; refine (hcl _).mono ?_; rintro e' w' ⟨rfl, hb⟩))
        go_ret
        exact ⟨by rw [← HX.out]; rfl, below_step HB.out hb⟩
    · obtain rfl : i = ts.length := by omega
      go_wp2
      go_ret
      exact ⟨by rw [← HI.out]; simp [idxT], HB.out⟩
set_option maxRecDepth 100000 in
theorem anyT_any (A : Option Addr) (c : Nat) (ts : List S51) (hl : ts.length ≤ 1099511627776) (w : World) (hr : Kd.C k51 w A ts.length ts) :
    Calls Tryz.prog 30 #[.slice A ts.length c, .func (.func 24) #[] #[]] w fun e' w' => e' = .returned (.bool (ts.any S51.bad)) ∧ Below w.heap.size w w' := by
  have hx := indexT_any A c ts hl w hr
  have he := idxT_any ts ts.length 0 (by omega)
  rw [List.drop_zero] at he
  obtain ⟨z, hz⟩ : ∃ z, idxT ts ts.length 0 = z := ⟨_, rfl⟩
  rw [hz] at hx he
  have HE := Aside0.mk he; clear he hz
  go_enter Tryz.func30, Tryz.ntmps30
  go_wp2_with (first | (go_at_call 67; refine hx.mono ?_; rintro e' w' ⟨rfl, hb⟩))
  go_ret
  exact ⟨by rw [← HE.out]; rfl, hb⟩

/-- the first number that may not be, from i on -/
def idxI (xs : List Int) : Nat → Nat → Int
  | 0, _ => -1
  | k + 1, i => if numBad (rd xs (i : Int)) then (i : Int) else idxI xs k (i + 1)
theorem idxI_step (xs : List Int) (k i : Nat) : idxI xs (k + 1) i = if numBad (rd xs (i : Int)) then (i : Int) else idxI xs k (i + 1) := rfl
theorem idxI_any (xs : List Int) : ∀ k i, i + k = xs.length → decide (0 ≤ idxI xs k i) = (xs.drop i).any numBad
  | 0, i, h => by
    rw [List.drop_of_length_le (by omega)]; rfl
  | k + 1, i, h => by
    have hlt : i < xs.length := by omega
    rw [idxI_step, List.drop_eq_getElem_cons hlt, List.any_cons]
    have e : rd xs (i : Int) = xs[i] := by unfold rd; simp [hlt]
    rw [e]
    cases hb : numBad xs[i]
    · simp only [Bool.false_or]
      rw [if_neg (by simp)]
      exact idxI_any xs k (i + 1) (by omega)
    · rw [if_pos rfl]; simp

set_option maxRecDepth 100000 in
set_option maxHeartbeats 800000 in
theorem indexI_any (A : Option Addr) (c : Nat) (xs : List Int) (hl : xs.length ≤ 1099511627776) (w : World) (hr : (Kd.int .i64).C w A xs.length xs) :
    Calls Tryz.prog 66 #[.slice A xs.length c, .func (.func 23) #[] #[]] w fun e' w' => e' = .returned (.int .i64 (idxI xs xs.length 0)) ∧ Below w.heap.size w w' := by
  have HR := Aside0.mk hr; clear hr
  go_enter Tryz.func66, Tryz.ntmps66
  go_wp2
  go_loopw [8] (fun v wr => ∃ i : Nat, v = .int .i64 i ∧ i ≤ xs.length ∧ Aside0 (idxI xs (xs.length - i) i = idxI xs xs.length 0) ∧ Below w.heap.size w wr) (fun v _ => xs.length - (intOf v).toNat)
  case atStart => exact ⟨0, rfl, by omega, ⟨rfl⟩, Below.refl _ _⟩
  case round =>
    obtain ⟨i, rfl, hi, HI, hb⟩ := hrel
    have HB := Aside0.mk hb; clear hb
    by_cases hlt : i < xs.length
    · have hx := HI.out
      obtain ⟨k, hk⟩ : ∃ k, xs.length - i = k + 1 := ⟨xs.length - i - 1, by omega⟩
      rw [hk, idxI_step] at hx
      have hk' : xs.length - (i + 1) = k := by omega
      have HK' := Aside0.mk hk'; clear hk' hk
      obtain ⟨ad, rfl, g0⟩ := Kd.at_int HR.out (i : Int) (by omega) (by omega)
      have q1 : (i : Int) < (xs.length : Int) := by omega
      replace g0 := below_cell0 HB.out g0
      have hcl := fun w => check1_any (rd xs (i : Int)) w
      obtain ⟨t, ht⟩ : ∃ t, rd xs (i : Int) = t := ⟨_, rfl⟩
      rw [ht] at hx g0 hcl
      have e5 : ((i : Int)).toNat = i := by simp
      rw [e5] at g0
      clear ht e5
      cases hq : numBad t <;> simp only [hq] at hcl
      · rw [hq] at hx
        have HX := Aside0.mk hx; clear hx
        go_wp2_with (first | (go_at_call 23; refine (hcl _).mono ?_; rintro e' w' ⟨rfl, rfl⟩))
        exact ⟨⟨i + 1, rfl, by omega, ⟨by rw [HK'.out]; simpa using HX.out⟩, HB.out⟩, by simp [intOf]; omega⟩
      · rw [hq, if_pos rfl] at hx
        have HX := Aside0.mk hx; clear hx
        go_wp2_with (first | (go_at_call 23; refine (hcl _).mono ?_; rintro e' w' ⟨rfl, rfl⟩))
        go_ret
        exact ⟨by rw [← HX.out]; rfl, HB.out⟩
    · obtain rfl : i = xs.length := by omega
      go_wp2
      go_ret
      exact ⟨by rw [← HI.out]; simp [idxI], HB.out⟩
set_option maxRecDepth 100000 in
theorem anyI_any (A : Option Addr) (c : Nat) (xs : List Int) (hl : xs.length ≤ 1099511627776) (w : World) (hr : (Kd.int .i64).C w A xs.length xs) :
    Calls Tryz.prog 29 #[.slice A xs.length c, .func (.func 23) #[] #[]] w fun e' w' => e' = .returned (.bool (xs.any numBad)) ∧ Below w.heap.size w w' := by
  have hx := indexI_any A c xs hl w hr
  have he := idxI_any xs xs.length 0 (by omega)
  rw [List.drop_zero] at he
  obtain ⟨z, hz⟩ : ∃ z, idxI xs xs.length 0 = z := ⟨_, rfl⟩
  rw [hz] at hx he
  have HE := Aside0.mk he; clear he hz
  go_enter Tryz.func29, Tryz.ntmps29
  go_wp2_with (first | (go_at_call 66; refine hx.mono ?_; rintro e' w' ⟨rfl, hb⟩))
  go_ret
  exact ⟨by rw [← HE.out]; rfl, hb⟩

/-- every byte is a letter of ASCII that is seen -/
def textOk (s : ByteArray) : Bool := s.data.toList.all fun b => decide (32 ≤ b.toNat) && decide (b.toNat ≤ 126)
theorem idxFunc_bad (s : ByteArray) : ∀ f pos, s.size - pos ≤ f → decide (0 ≤ Lib.idxFuncFrom runeBad true s f pos) = !((s.data.toList.drop pos).all fun b => decide (32 ≤ b.toNat) && decide (b.toNat ≤ 126)) := by
  have hlen : s.data.toList.length = s.size := by rw [Array.length_toList]; rfl
  intro f
  induction f with
  | zero =>
    intro pos h
    rw [List.drop_of_length_le (by omega)]; rfl
  | succ f ih =>
    intro pos h
    unfold Lib.idxFuncFrom
    by_cases hp : pos < s.size
    · rw [if_pos hp]
      have hgg := get_get s pos hp
      have hdrop : s.data.toList.drop pos = (s[pos]'hp) :: s.data.toList.drop (pos + 1) := by
        rw [List.drop_eq_getElem_cons (by omega)]; rfl
      rw [hdrop, List.all_cons]
      by_cases ha : (s[pos]'hp).toNat < 128
      · rw [decode_ascii s pos hp ha]
        simp only []
        cases hb : runeBad (s[pos]'hp).toNat
        · rw [if_neg (by simp), ih (pos + 1) (by omega)]
          have : (decide (32 ≤ (s[pos]'hp).toNat) && decide ((s[pos]'hp).toNat ≤ 126)) = true := by
            unfold runeBad at hb
            simp only [Bool.or_eq_false_iff, decide_eq_false_iff_not] at hb
            simp; omega
          rw [this]; simp
        · rw [if_pos rfl]
          have : (decide (32 ≤ (s[pos]'hp).toNat) && decide ((s[pos]'hp).toNat ≤ 126)) = false := by
            unfold runeBad at hb
            simp only [Bool.or_eq_true, decide_eq_true_eq] at hb
            simp; omega
          rw [this]; simp
      · have hd := decode_high s pos (by rw [hgg]; omega)
        have hb : runeBad (Utf8.decode s pos).1 = true := by unfold runeBad; simp; omega
        rw [if_pos hb]
        have : (decide (32 ≤ (s[pos]'hp).toNat) && decide ((s[pos]'hp).toNat ≤ 126)) = false := by simp; omega
        rw [this]; simp
    · rw [if_neg hp, List.drop_of_length_le (by omega)]; rfl
theorem runes_any (s : ByteArray) (w : World) :
    Calls Tryz.prog 27 #[.string s, .func (.func 28) #[] #[]] w fun e' w' => e' = .returned (.bool (!textOk s)) ∧ Below w.heap.size w w' := by
  have h := Tryz.strings_ContainsFunc_grows 28 #[] (fun args w => by go_simp) runeBad s w (fun W x hx hb => (check3_any x W).mono fun e w' ⟨h1, h2⟩ => ⟨h1, h2 ▸ Below.refl _ _⟩)
  have e := idxFunc_bad s s.size 0 (by omega)
  rw [List.drop_zero] at e
  unfold Lib.idxFunc at h
  rw [e] at h
  exact h
theorem trim_any (s : ByteArray) (hs : s.size ≤ 1099511627776) (w : World) :
    Calls Tryz.prog 26 #[.string s, .string ⟨#[43, 45]⟩] w fun e' w' => e' = .returned (.string ⟨(Lib.trimS s.data.toList [43, 45]).toArray⟩) ∧ Below w.heap.size w w' :=
  Any.strings_Trim_laid Tryz.lays160 (by kernel_rfl) s ⟨#[43, 45]⟩ w (by omega) (by decide) (fun j b h => by
    match j, h with
    | 0, h => simp at h; subst h; decide
    | 1, h => simp at h; subst h; decide)
end Go.Proofs.YtbdoafigggcdpaaGreatDoor.PScr
