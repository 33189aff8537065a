/- The walk of the law ScriptShows: it is true. No condition of ours. -/
import Derived.Test.YtbdoafigggcdpaaGreatDoorQLN
import Derived.Test.YtbdoafigggcdpaaGreatDoorQMH
import Derived.Test.YtbdoafigggcdpaaGreatDoorQRA
import Derived.Test.YtbdoafigggcdpaaGreatDoorQOA
import Derived.Test.YtbdoafigggcdpaaGreatDoorQPE
import Derived.Deep.RegionHeld3
namespace Go.Proofs.YtbdoafigggcdpaaGreatDoor.PScr
open Go.RowKit Go.Proofs.YtbdoafigggcdpaaGreatDoorW.PrintWords Go.Proofs.YtbdoafigggcdpaaGreatDoorW.PrintLast Go.Proofs.YtbdoafigggcdpaaGreatDoorW.PrintMore
set_option linter.unusedVariables false
set_option linter.unusedSimpArgs false

/-! ### few lines -/
def Little (x : S29) : Prop := x.f1.length ≤ 20 ∧ x.f2.length ≤ 20 ∧ x.f4.size ≤ 300 ∧ x.f0.size ≤ 100 ∧ x.f3.size ≤ 100
theorem few2 (Q : Prop) (l : List S29) (i j : Int) (p : List ByteArray) (hp : p.length = 6) (h : ∃ k r, lunetteref20_Few.l1 k l i (wrap64 (j + 1)) = some r ∧ (r = true → Q)) : ∀ (d m : Nat), m + d = p.length → ∃ k r, lunetteref20_Few.l2 k l i j p (m : Int) = some r ∧ (r = true → Q)
  | 0, m, hm => by
    obtain ⟨k, r, h1, h2⟩ := h
    refine ⟨k + 1, r, ?_, h2⟩
    unfold lunetteref20_Few.l2
    rw [if_neg (by omega)]
    exact h1
  | d + 1, m, hm => by
    obtain ⟨k, r, h1, h2⟩ := few2 Q l i j p hp h d (m + 1) (by omega)
    by_cases hc : ((rdOf ByteArray.empty p (m : Int)).size : Int) > 100
    · refine ⟨k + 1, false, ?_, fun h => by cases h⟩
      unfold lunetteref20_Few.l2
      rw [if_pos (by omega), if_pos (by omega), if_pos hc]
    · refine ⟨k + 1, r, ?_, h2⟩
      unfold lunetteref20_Few.l2
      rw [if_pos (by omega), if_pos (by omega), if_neg hc, wrap_up m (by omega)]
      exact h1
theorem few1 (Q : Prop) (l : List S29) (i : Nat) (hi : i < l.length) (ht : (rd_T29 l (i : Int)).f2.length < 9223372036854775808) (h : ∃ k r, lunetteref20_Few.l0 k l (wrap64 ((i : Int) + 1)) = some r ∧ (r = true → Q)) : ∀ (d j : Nat), j + d = (rd_T29 l (i : Int)).f2.length → ∃ k r, lunetteref20_Few.l1 k l (i : Int) (j : Int) = some r ∧ (r = true → Q)
  | 0, j, hj => by
    obtain ⟨k, r, h1, h2⟩ := h
    refine ⟨k + 1, r, ?_, h2⟩
    unfold lunetteref20_Few.l1
    rw [if_pos (by omega), if_pos (by omega), if_neg (by omega)]
    exact h1
  | d + 1, j, hj => by
    have ih := few1 Q l i hi ht h d (j + 1) (by omega)
    have hw : wrap64 ((j : Int) + 1) = ((j + 1 : Nat) : Int) := by unfold wrap64; omega
    rw [← hw] at ih
    obtain ⟨k, r, h1, h2⟩ := few2 Q l (i : Int) (j : Int) [_, _, _, _, _, _] rfl ih 6 0 rfl
    refine ⟨k + 1, r, ?_, h2⟩
    unfold lunetteref20_Few.l1
    rw [if_pos (by omega), if_pos (by omega), if_pos (by omega), if_pos (by omega)]
    unfold lunetteref11_Parts.f
    rw [Option.bind_some]
    exact h1
theorem few0 (l : List S29) (hl : l.length < 9223372036854775808) (ht : ∀ x ∈ l, x.f2.length < 9223372036854775808) : ∀ (d i : Nat), i + d = l.length → ∃ k r, lunetteref20_Few.l0 k l (i : Int) = some r ∧ (r = true → ∀ x ∈ l.drop i, Little x)
  | 0, i, hi => by
    refine ⟨1, true, ?_, fun _ x hx => ?_⟩
    · unfold lunetteref20_Few.l0
      rw [if_neg (by omega)]
    · rw [List.drop_of_length_le (by omega)] at hx
      simp at hx
  | d + 1, i, hi => by
    have hlt : i < l.length := by omega
    have ih := few0 l hl ht d (i + 1) (by omega)
    have hw : wrap64 ((i : Int) + 1) = ((i + 1 : Nat) : Int) := by unfold wrap64; omega
    rw [← hw] at ih
    have hrd := rd_T29_at l i hlt
    obtain ⟨k, r, h1, h2⟩ := few1 _ l i hlt (by rw [hrd]; exact ht _ (List.getElem_mem hlt)) ih (rd_T29 l (i : Int)).f2.length 0 (by omega)
    have hd : l.drop i = l[i] :: l.drop (i + 1) := List.drop_eq_getElem_cons hlt
    have hno : ∀ k, lunetteref20_Few.j1 (k + 1) l (i : Int) true = some false := fun k => by rw [lunetteref20_Few.j1]; rfl
    have hyes : lunetteref20_Few.j1 (k + 1) l (i : Int) false = some r := by rw [lunetteref20_Few.j1]; exact h1
    rw [← hrd] at hd
    obtain ⟨x, hx⟩ : ∃ x, rd_T29 l (i : Int) = x := ⟨_, rfl⟩
    rw [hx] at hd
    by_cases c1 : (x.f1.length : Int) > 20
    · refine ⟨k + 2, false, ?_, fun h => by cases h⟩
      unfold lunetteref20_Few.l0
      rw [if_pos (by omega), if_pos (by omega), hx, if_pos c1, hno]
    by_cases c2 : (x.f2.length : Int) > 20
    · refine ⟨k + 2, false, ?_, fun h => by cases h⟩
      unfold lunetteref20_Few.l0
      rw [if_pos (by omega), if_pos (by omega), hx, if_neg c1, if_pos c2, hno]
    by_cases c3 : (x.f4.size : Int) > 300
    · refine ⟨k + 2, false, ?_, fun h => by cases h⟩
      unfold lunetteref20_Few.l0
      rw [if_pos (by omega), if_pos (by omega), hx, if_neg c1, if_neg c2, if_pos c3, hno]
    by_cases c4 : (x.f0.size : Int) > 100
    · refine ⟨k + 2, false, ?_, fun h => by cases h⟩
      unfold lunetteref20_Few.l0
      rw [if_pos (by omega), if_pos (by omega), hx, if_neg c1, if_neg c2, if_neg c3, if_pos c4, hno]
    by_cases c5 : (x.f3.size : Int) > 100
    · refine ⟨k + 2, false, ?_, fun h => by cases h⟩
      unfold lunetteref20_Few.l0
      rw [if_pos (by omega), if_pos (by omega), hx, if_neg c1, if_neg c2, if_neg c3, if_neg c4, decide_eq_true c5, hno]
    · refine ⟨k + 2, r, ?_, fun h y hy => ?_⟩
      · unfold lunetteref20_Few.l0
        rw [if_pos (by omega), if_pos (by omega), hx, if_neg c1, if_neg c2, if_neg c3, if_neg c4, decide_eq_false c5, hyes]
      · rw [hd] at hy
        rcases List.mem_cons.1 hy with rfl | hy
        · exact ⟨by omega, by omega, by omega, by omega, by omega⟩
        · exact h2 h y hy
theorem few_ex (l : List S29) (hl : l.length < 9223372036854775808) (ht : ∀ x ∈ l, x.f2.length < 9223372036854775808) : ∃ k r, lunetteref20_Few.f k l = some r ∧ (r = true → l.length ≤ 60 ∧ ∀ x ∈ l, Little x) := by
  by_cases c : (l.length : Int) > 60
  · refine ⟨1, false, ?_, fun h => by cases h⟩
    unfold lunetteref20_Few.f
    rw [if_pos c]
  · obtain ⟨k, r, h1, h2⟩ := few0 l hl ht l.length 0 (by omega)
    refine ⟨k, r, ?_, fun h => ⟨by omega, ?_⟩⟩
    · unfold lunetteref20_Few.f
      rw [if_neg c]
      exact h1
    · have := h2 h
      rwa [List.drop_zero] at this

/-! ### the walk -/
theorem five_keep {w w1 w' : World} {a0 a1 a2 a3 a4 : Addr} {x0 x1 x2 x3 x4 : Value} (hb : Below w1.heap.size w1 w') (h : w1.cell? a0 = some x0 ∧ w1.cell? a1 = some x1 ∧ w1.cell? a2 = some x2 ∧ w1.cell? a3 = some x3 ∧ w1.cell? a4 = some x4 ∧ Aside0 (Below w.heap.size w w1)) : w'.cell? a0 = some x0 ∧ w'.cell? a1 = some x1 ∧ w'.cell? a2 = some x2 ∧ w'.cell? a3 = some x3 ∧ w'.cell? a4 = some x4 ∧ Aside0 (Below w.heap.size w w') :=
  ⟨below_cell0 hb h.1, below_cell0 hb h.2.1, below_cell0 hb h.2.2.1, below_cell0 hb h.2.2.2.1, below_cell0 hb h.2.2.2.2.1, ⟨below_step h.2.2.2.2.2.out hb⟩⟩
theorem five_below {w w1 : World} {a0 a1 a2 a3 a4 : Addr} {x0 x1 x2 x3 x4 : Value} (h : w1.cell? a0 = some x0 ∧ w1.cell? a1 = some x1 ∧ w1.cell? a2 = some x2 ∧ w1.cell? a3 = some x3 ∧ w1.cell? a4 = some x4 ∧ Aside0 (Below w.heap.size w w1)) : Below w.heap.size w w1 := h.2.2.2.2.2.out

set_option maxRecDepth 100000 in
set_option maxHeartbeats 4000000 in
theorem shows_any (w0 : World) (F : Facts w0) (A : Option Addr) (c : Nat) (l : List S29) (hl : l.length ≤ 140737488355328) (hc : l.length ≤ c) (hm : ∀ x ∈ l, x.mid) (w : World) (hB0 : Below w0.heap.size w0 w) (hE : EntsIn w) (hr : Kd.C k29 w A l.length l) :
    Calls Tryz.prog 3 #[.slice A l.length c] w fun e w' => e = .returned (.bool true) ∧ Below w.heap.size w w' := by
  have hu29 := Tryz.underlying29
  have hu22 := Tryz.underlying22
  obtain ⟨kf, rf, hf, hft⟩ := few_ex l (by omega) (fun x hx => (hm x hx).1.2.1)
  have hwid : ∀ x ∈ l, x.wide ∧ ∀ t ∈ x.f2, t.short := fun x hx => ⟨⟨(hm x hx).1.1, (hm x hx).1.2.1, (hm x hx).1.2.2.1, (hm x hx).1.2.2.2.1⟩, (hm x hx).2⟩
  have HF := Aside0.mk hf; clear hf
  have HB0 := Aside0.mk hB0; clear hB0
  have HE := Aside0.mk hE; clear hE
  have HR := Aside0.mk hr; clear hr
  have next : ∀ {w1 : World}, Below w.heap.size w w1 → Below w0.heap.size w0 w1 := fun h => below_weaken HB0.out HB0.out.size h
  have HN := Aside0.mk @next; clear next
  have haw : ∀ w1, Below w.heap.size w w1 → Calls Tryz.prog 8 #[] w1 fun e w' => e = .returned (.bool true) ∧ Below w1.heap.size w1 w' := fun w1 hb => awake_any w0 F w1 (HN.out hb) (HE.out.below hb)
  have HAW := Aside0.mk haw; clear haw
  have HM := Aside0.mk hm; clear hm
  have HFT := Aside0.mk hft; clear hft
  have HWID := Aside0.mk hwid; clear hwid
  go_enter Tryz.func3, Tryz.ntmps3
  go_wp2_with fail
  refine (HAW.out w (Below.refl _ _)).mono ?_
  rintro e w2 ⟨rfl, hb⟩
  have HB2 := Aside0.mk hb; clear hb
  go_wp2_with fail
  refine (lunetteref20_Few.calls kf A c l rf w2 (Kd.C_below HR.out HB2.out) hc HF.out).mono ?_
  rintro e w3 ⟨rfl, hb⟩
  have HB3 := Aside0.mk (below_step HB2.out hb); clear hb
  have HAW3 := Aside0.mk (HAW.out w3 HB3.out)
  cases rf with
  | false =>
    go_wp2_with (first | (go_at_call 8; refine HAW3.out.mono ?_; rintro e w4 ⟨rfl, hb⟩; have HB4 := Aside0.mk (below_step HB3.out hb); clear hb))
    go_ret
    exact ⟨rfl, HB4.out⟩
  | true =>
    obtain ⟨hl60, hlit⟩ := HFT.out rfl
    have HLIT := Aside0.mk hlit; clear hlit HFT
    go_upto_region 4 with fail
    go_loopw [3] (fun i wx => ∃ k : Nat, k ≤ l.length ∧ i = .int .i64 k ∧ Aside0 (Below w.heap.size w wx)) (fun i _ => l.length - (intOf i).toNat)
    case atStart => exact ⟨0, by omega, rfl, HB3⟩
    case round =>
      clear HB3 HAW3
      obtain ⟨k, hk, rfl, HB3⟩ := hrel
      by_cases hlt : k < l.length
      · obtain ⟨ad, A1, c1, A2, c2, rfl, g0, g1, g2, g3, g4, l1, r1, l2, r2⟩ := at_T29 HR.out (k : Int) (by omega) (by omega)
        replace g0 := below_cell0 HB3.out g0
        replace g1 := below_cell0 HB3.out g1
        replace g2 := below_cell0 HB3.out g2
        replace g3 := below_cell0 HB3.out g3
        replace g4 := below_cell0 HB3.out g4
        have HR1 := Aside0.mk r1; clear r1
        have HR2 := Aside0.mk r2; clear r2
        have e5 : ((k : Int)).toNat = k := by simp
        rw [e5] at g0 g1 g2 g3 g4
        clear e5
        have hmem : rd_T29 l (k : Int) ∈ l := by rw [rd_T29_at l k hlt]; exact List.getElem_mem hlt
        obtain ⟨x, hx⟩ : ∃ x, rd_T29 l (k : Int) = x := ⟨_, rfl⟩
        rw [hx] at g0 g1 g2 g3 g4 HR1 HR2 hmem l1 l2
        clear hx
        have hshx := HLIT.out _ hmem
        have hwx := HWID.out _ hmem
        clear hmem
        have q1 : (k : Int) < (l.length : Int) := by omega
        obtain ⟨gd, hgd⟩ : ∃ b, goodL x = b := ⟨_, rfl⟩
        obtain ⟨kc, hkc⟩ := refCheck_f x hwx.1 hwx.2
        rw [hgd] at hkc
        obtain ⟨h1, h2, h3, h4, h5⟩ := hshx
        have h10 : ∀ w1, Below w.heap.size w w1 → Calls Tryz.prog 10 #[.agg #[.string x.f0, .slice A1 x.f1.length c1, .slice A2 x.f2.length c2, .string x.f3, .string x.f4]] w1 fun e w' => e = .returned (.bool gd) ∧ Below w1.heap.size w1 w' := by
          intro w1 hb1
          have hchk := checkL_any x.f0 A1 c1 x.f1 A2 c2 x.f2 x.f3 x.f4 (by omega) (by omega) (by omega) (by omega) w1 (HE.out.below hb1) (Kd.C_below HR1.out hb1) (Kd.C_below HR2.out hb1) _ _ rfl rfl (find_facts x.f0).1
          rwa [show checkE (findE x.f0) (findB x.f0) x.f1 x.f2 x.f3 x.f4 = gd from hgd] at hchk
        have h11 : ∀ w1, Below w.heap.size w w1 → Calls Tryz.prog 11 #[.agg #[.string x.f0, .slice A1 x.f1.length c1, .slice A2 x.f2.length c2, .string x.f3, .string x.f4]] w1 fun e w' => e = .returned (.bool gd) ∧ Below w1.heap.size w1 w' := by
          intro w1 hb1
          exact lunetteref20_Check.calls kc x.f0 A1 c1 x.f1 A2 c2 x.f2 x.f3 x.f4 gd w1 (Kd.C_below HR1.out hb1) l1 (Kd.C_below HR2.out hb1) l2 hkc
        have H10 := Aside0.mk h10; have H11 := Aside0.mk h11
        clear h10 h11 hgd hkc h1 h2 h3 h4 h5 hwx HR1 HR2 l1 l2
        have qe : (gd == gd) = true := by cases gd <;> rfl
        go_upto_region 6 with fail
        go_region_held3 (fun w' => w'.cell? (ad.add (k * 5)) = some (.string x.f0) ∧ w'.cell? ⟨(ad.add (k * 5)).block, (ad.add (k * 5)).off + 1, none⟩ = some (.slice A1 x.f1.length c1) ∧ w'.cell? ⟨(ad.add (k * 5)).block, (ad.add (k * 5)).off + 2, none⟩ = some (.slice A2 x.f2.length c2) ∧ w'.cell? ⟨(ad.add (k * 5)).block, (ad.add (k * 5)).off + 3, none⟩ = some (.string x.f3) ∧ w'.cell? ⟨(ad.add (k * 5)).block, (ad.add (k * 5)).off + 4, none⟩ = some (.string x.f4) ∧ Aside0 (Below w.heap.size w w')) (first | assumption | exact ⟨g0, g1, g2, g3, g4, HB3⟩ | (refine ⟨?_, ?_, ?_, ?_, ?_, ⟨pw_below_drewN HB3.out 1⟩⟩ <;> go_simp))
          (first | (go_at_call 10; refine (H10.out _ (five_below (by assumption))).mono ?_; rintro e w' ⟨rfl, hb⟩; have hsx := five_keep hb (by assumption)) | (go_at_call 11; refine (H11.out _ (five_below (by assumption))).mono ?_; rintro e w' ⟨rfl, hb⟩; have hsx := five_keep hb (by assumption)))
        rename_i hend
        have HB4 := hend.2.2.2.2.2
        clear hend
        go_wp2
        exact ⟨⟨k + 1, by omega, by go_num, HB4⟩, by simp [intOf]; omega⟩
      · obtain rfl : k = l.length := by omega
        have hsw := refShow_any A c l hl HWID.out
        obtain ⟨al, hal⟩ : ∃ b, l.all goodL = b := ⟨_, rfl⟩
        rw [hal] at hsw
        have HSW := Aside0.mk hsw; clear hsw
        have hsh := show_any w0 F A c l (by omega) (fun x hx => by obtain ⟨z1, z2, z3, z4, z5⟩ := HLIT.out x hx; exact ⟨by omega, by omega, by omega, by omega⟩) wr (HN.out HB3.out) (HE.out.below HB3.out) (Kd.C_below HR.out HB3.out)
        have hT : showT l = if al then textAll l else ⟨#[]⟩ := by unfold showT; rw [hal]
        have hC : showC l = if al then 0 else 201 := by unfold showC; rw [hal]
        have HAL := Aside0.mk hal; clear hal
        cases al with
        | false =>
          have hT' : showT l = ⟨#[]⟩ := hT
          have hC' : showC l = 201 := hC
          clear hT hC
          rw [hT'] at HSW
          rw [hT', hC'] at hsh
          clear hT' hC'
          go_wp2_with fail
          refine hsh.mono ?_
          clear hsh
          rintro e w4 ⟨rfl, hb⟩
          have HB4 := Aside0.mk (below_step HB3.out hb); clear hb
          go_wp2_with fail
          refine (HSW.out w4 (Kd.C_below HR.out HB4.out)).mono ?_
          rintro e w5 ⟨rfl, hb⟩
          have HB5 := Aside0.mk (below_step HB4.out hb); clear hb
          go_wp2
          go_ret
          exact ⟨rfl, HB5.out⟩
        | true =>
          have hT' : showT l = textAll l := hT
          have hC' : showC l = 0 := hC
          clear hT hC
          have hgd : ∀ x ∈ l, goodL x = true := List.all_eq_true.1 HAL.out
          have hSz := textAll_size2 l hgd
          have hS4 : (textAll l).size ≤ 420000 := by
            have : l.length * 7000 ≤ 60 * 7000 := Nat.mul_le_mul_right _ hl60
            omega
          clear hSz
          obtain ⟨kk, hkk⟩ := same_good l (by omega) hgd
          have hrd := read_text l hgd
          obtain ⟨S, hS⟩ : ∃ S, textAll l = S := ⟨_, rfl⟩
          rw [hS] at hT' hS4 hrd
          rw [hT'] at HSW
          rw [hT', hC'] at hsh
          clear hT' hC' hgd hS
          have HKK := Aside0.mk hkk; clear hkk
          have HRD := Aside0.mk hrd; clear hrd
          go_wp2_with fail
          refine hsh.mono ?_
          clear hsh
          rintro e w4 ⟨rfl, hb⟩
          have HB4 := Aside0.mk (below_step HB3.out hb); clear hb
          go_wp2_with fail
          refine (HSW.out w4 (Kd.C_below HR.out HB4.out)).mono ?_
          rintro e w5 ⟨rfl, hb⟩
          have HB5 := Aside0.mk (below_step HB4.out hb); clear hb
          have hread := readOk_any w0 F S (by omega) w5 (HN.out HB5.out) (HE.out.below HB5.out) l 0 HRD.out
          have se : (S.toList == S.toList) = true := by simp
          go_wp2_with fail
          refine hread.mono ?_
          clear hread
          rintro e w6 ⟨⟨A6, c6, rfl, hrow⟩, hb⟩
          have HB6 := Aside0.mk (below_step HB5.out hb); clear hb
          have HROW := Aside0.mk hrow; clear hrow
          go_wp2_with fail
          refine (lunetteref20_Same.calls kk A c l A6 c6 l true w6 (Kd.C_below HR.out HB6.out) hc (Kd.R_reads' HROW.out).2.2 (Kd.R_reads' HROW.out).2.1 HKK.out).mono ?_
          rintro e w7 ⟨rfl, hb⟩
          have HB7 := Aside0.mk (below_step HB6.out hb); clear hb
          go_wp2
          go_ret
          exact ⟨rfl, HB7.out⟩
end Go.Proofs.YtbdoafigggcdpaaGreatDoor.PScr
