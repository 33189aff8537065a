/- The walk of the law ScriptJoins: it is true. No condition of ours. -/
import Derived.Test.YtbdoafigggcdpaaGreatDoorMH
import Derived.Test.YtbdoafigggcdpaaGreatDoorPE
import Derived.Laws.AppendOwnNone
namespace Go.Proofs.YtbdoafigggcdpaaGreatDoor.PScr
open Go.RowKit Go.Proofs.YtbdoafigggcdpaaGreatDoorW.PrintWords Go.Proofs.YtbdoafigggcdpaaGreatDoorW.PrintLast Go.Proofs.YtbdoafigggcdpaaGreatDoorW.PrintMore
set_option linter.unusedVariables false
set_option linter.unusedSimpArgs false

set_option maxRecDepth 100000 in
set_option maxHeartbeats 4000000 in
theorem joins_any (w0 : World) (F : Facts w0) (a b : ByteArray) (w : World) (hB0 : Below w0.heap.size w0 w) (hE : EntsIn w) :
    Calls Tryz.prog 6 #[.string a, .string b] w fun e w' => e = .returned (.bool true) ∧ Below w.heap.size w w' := by
  have hu29 := Tryz.underlying29
  have hu22 := Tryz.underlying22
  have HB0 := Aside0.mk hB0; clear hB0
  have HE := Aside0.mk hE; clear hE
  have next : ∀ {w1 : World}, Below w.heap.size w w1 → Below w0.heap.size w0 w1 := fun h => below_weaken HB0.out HB0.out.size h
  have HN := Aside0.mk @next; clear next
  by_cases ha : 2000 < a.size
  · have q1 : (2000 : Int) < (a.size : Int) := by omega
    go_enter Tryz.func6, Tryz.ntmps6
    go_wp2_with fail
    refine (awake_any w0 F w HB0.out HE.out).mono ?_
    rintro e w1 ⟨rfl, hb⟩
    have HB1 := Aside0.mk hb; clear hb
    go_wp2_with fail
    refine (awake_any w0 F w1 (HN.out HB1.out) (HE.out.below HB1.out)).mono ?_
    rintro e w2 ⟨rfl, hb⟩
    have HB2 := Aside0.mk (below_step HB1.out hb); clear hb
    go_wp2
    go_ret
    exact ⟨rfl, HB2.out⟩
  by_cases hb0 : 2000 < b.size
  · have q1 : ¬ (2000 : Int) < (a.size : Int) := by omega
    have q2 : (2000 : Int) < (b.size : Int) := by omega
    go_enter Tryz.func6, Tryz.ntmps6
    go_wp2_with fail
    refine (awake_any w0 F w HB0.out HE.out).mono ?_
    rintro e w1 ⟨rfl, hb⟩
    have HB1 := Aside0.mk hb; clear hb
    go_wp2_with fail
    refine (awake_any w0 F w1 (HN.out HB1.out) (HE.out.below HB1.out)).mono ?_
    rintro e w2 ⟨rfl, hb⟩
    have HB2 := Aside0.mk (below_step HB1.out hb); clear hb
    go_wp2
    go_ret
    exact ⟨rfl, HB2.out⟩
  have q1 : ¬ (2000 : Int) < (a.size : Int) := by omega
  have q2 : ¬ (2000 : Int) < (b.size : Int) := by omega
  have q4 : (9223372036854775807 < a.size + b.size) = False := eq_false (by omega)
  have hsz : (a ++ b).size = a.size + b.size := by simp
  obtain ⟨la, na, oa, hra⟩ : ∃ l n o, readAll a = (l, n, o) := ⟨_, _, _, rfl⟩
  obtain ⟨lb, nb, ob, hrb⟩ : ∃ l n o, readAll b = (l, n, o) := ⟨_, _, _, rfl⟩
  obtain ⟨lc, nc, oc, hrc⟩ : ∃ l n o, readAll (a ++ b) = (l, n, o) := ⟨_, _, _, rfl⟩
  have la1 := readAll_len a
  have lb1 := readAll_len b
  rw [hra] at la1
  rw [hrb] at lb1
  simp only at la1 lb1
  obtain ⟨la2, la3, la4, HGA⟩ := la1
  obtain ⟨lb2, lb3, lb4, HGB⟩ := lb1
  have hjoin : oa = true → (lc, nc, oc) = if ob then (la ++ lb, 0, true) else ([], la.length + nb, false) := by
    intro ho
    subst ho
    have := read_join a b (by rw [hra])
    rw [hra, hrb, hrc] at this
    exact this
  obtain ⟨ab, hab⟩ : ∃ x, a ++ b = x := ⟨_, rfl⟩
  rw [hab] at hrc hsz
  have HRA := Aside0.mk hra; have HRB := Aside0.mk hrb; have HRC := Aside0.mk hrc
  have HGA' := Aside0.mk HGA; have HGB' := Aside0.mk HGB
  have HAB := Aside0.mk hab
  have HJ := Aside0.mk hjoin
  clear hra hrb hrc HGA HGB hab hjoin la4 lb4
  have hrun : ∀ (s : ByteArray) (l : List S29) (n : Nat) (o : Bool), s.size ≤ 4000 → readAll s = (l, n, o) → ∀ w1, Below w.heap.size w w1 → Calls Tryz.prog 14 #[.string s] w1 fun e w' => (∃ v c, e = .returned (.tuple #[v, .int .i64 n, .int .i64 c]) ∧ c = (if o then 0 else 200) ∧ k29.R 29 w' w1.heap.size (fun _ => True) v l) ∧ Below w1.heap.size w1 w' := by
    intro s l n o hs hr w1 hb1
    refine (read_any w0 F s (by omega) w1 (HN.out hb1) (HE.out.below hb1) _ hr).mono ?_
    rintro e w' ⟨⟨v, rfl, hrow⟩, hb⟩
    exact ⟨⟨v, _, rfl, rfl, hrow⟩, hb⟩
  have HRUN := Aside0.mk hrun; clear hrun
  go_enter Tryz.func6, Tryz.ntmps6
  go_wp2_with fail
  refine (awake_any w0 F w HB0.out HE.out).mono ?_
  rintro e w1 ⟨rfl, hb⟩
  have HB1 := Aside0.mk hb; clear hb
  go_wp2_with fail
  refine (HRUN.out a la na oa (by omega) HRA.out w1 HB1.out).mono ?_
  rintro e w2 ⟨⟨v1, ca, rfl, hca, hrow1⟩, hb⟩
  have HB2 := Aside0.mk (below_step HB1.out hb)
  have HR1 := Aside0.mk hrow1
  have hs12 := hb.size
  clear hb hrow1
  have HCA := Aside0.mk hca; clear hca
  go_wp2_with fail
  refine (HRUN.out b lb nb ob (by omega) HRB.out w2 HB2.out).mono ?_
  rintro e w3 ⟨⟨v2, cb, rfl, hcb, hrow2⟩, hb⟩
  have HB3 := Aside0.mk (below_step HB2.out hb)
  have HR2 := Aside0.mk hrow2
  have HR1b := Aside0.mk (Kd.R_below HR1.out hb)
  have hs23 := hb.size
  clear hb hrow2
  have HCB := Aside0.mk hcb; clear hcb
  go_wp2_with fail
  rw [HAB.out]
  refine (HRUN.out ab lc nc oc (by omega) HRC.out w3 HB3.out).mono ?_
  rintro e w4 ⟨⟨v3, cc, rfl, hcc, hrow3⟩, hb⟩
  have HB4 := Aside0.mk (below_step HB3.out hb)
  have HR3 := Aside0.mk hrow3
  have HR1c := Aside0.mk (Kd.R_below HR1b.out hb)
  have HR2c := Aside0.mk (Kd.R_below HR2.out hb)
  have hs34 := hb.size
  clear hb hrow3
  have HCC := Aside0.mk hcc; clear hcc
  cases oa with
  | false =>
    obtain rfl : ca = 200 := HCA.out
    go_wp2
    go_ret
    exact ⟨rfl, HB4.out⟩
  | true =>
    obtain rfl : ca = 0 := HCA.out
    have hj := HJ.out rfl
    cases ob with
    | false =>
      obtain rfl : cb = 200 := HCB.out
      obtain ⟨rfl, rfl, rfl⟩ : lc = [] ∧ nc = la.length + nb ∧ oc = false := by simpa using hj
      obtain rfl : cc = 200 := HCC.out
      clear hj
      obtain ⟨A1, c1, rfl⟩ := Kd.R_slice HR1c.out
      obtain ⟨A3, c3, rfl⟩ := Kd.R_slice HR3.out
      have q5 : wrap64 ((la.length : Int) + (nb : Int)) = ((la.length + nb : Nat) : Int) := by unfold wrap64; omega
      go_wp2
      go_ret
      exact ⟨rfl, HB4.out⟩
    | true =>
      obtain rfl : cb = 0 := HCB.out
      obtain ⟨rfl, rfl, rfl⟩ : lc = la ++ lb ∧ nc = 0 ∧ oc = true := by simpa using hj
      obtain rfl : cc = 0 := HCC.out
      clear hj
      have hgl : ∀ x ∈ la ++ lb, goodL x = true := by
        intro x hx
        rcases List.mem_append.1 hx with hx | hx
        · exact HGA'.out x hx
        · exact HGB'.out x hx
      obtain ⟨kk, hkk⟩ := same_good (la ++ lb) (by rw [List.length_append]; omega) hgl
      obtain ⟨i0, hi, hz0, hz1, hz2⟩ := info_parts info29
      have hlt1 := Kd.R_lt HR1.out
      have hba1 := Kd.R_base HR1.out
      obtain ⟨_, i1, own1, rep1⟩ := HR1c.out
      obtain ⟨_, i2, own2, rep2⟩ := HR2c.out
      have rep2' : Reps (k29.M w4 w1.heap.size (fun k => w2.heap.size ≤ k)) 5 lb i2 := rep2.imp_ (fun _ _ h => k29.M_lower hs12 (k29.M_mono (fun k hk => hk.2.1) (k29.M_bound h)))
      have hone2 : ∀ u ∈ i2, u.oneCell' = true := Kd.reps_one rep2 (by decide) (fun _ _ h => k29.K_one (k29.K_of_M h))
      have HREP1 := Aside0.mk rep1; have HREP2 := Aside0.mk rep2'; have HONE2 := Aside0.mk hone2; have HOWN1 := Aside0.mk own1
      have HLT1 := Aside0.mk hlt1; have HBA1 := Aside0.mk hba1
      clear rep1 rep2 rep2' hone2 own1 hlt1 hba1 hgl
      have HKK := Aside0.mk hkk; clear hkk
      obtain ⟨lj, hlj⟩ : ∃ lj, la ++ lb = lj := ⟨_, rfl⟩
      have HR3' := Aside0.mk (show k29.R 29 w4 w3.heap.size (fun _ => True) v3 lj from hlj ▸ HR3.out)
      have HKK' := Aside0.mk (show lunetteref20_Same.f kk lj lj = some true from hlj ▸ HKK.out)
      have HLJ := Aside0.mk hlj
      clear HR3 HKK hlj
      have hll : lj.length = la.length + lb.length := by rw [← HLJ.out, List.length_append]
      have HLL := Aside0.mk hll; clear hll
      obtain ⟨A1, c1, rfl⟩ := Kd.R_slice HR1c.out
      obtain ⟨A3, c3, rfl⟩ := Kd.R_slice HR3'.out
      have HR3b := Aside0.mk (Kd.R_bound HR3'.out)
      rcases own2.2 with ⟨rfl, hlb0⟩ | ⟨g, cap, cur, rfl, hbg, hgg, hcap1, hcap2, hcs, htk⟩
      · have hlb : lb = [] := List.length_eq_zero_iff.1 hlb0
        have hla : la = lj := by have := HLJ.out; rw [hlb, List.append_nil] at this; exact this
        have HR1d := Aside0.mk (show k29.R 29 w4 w1.heap.size (fun _ => True) (.slice A1 lj.length c1) lj from by have h := HR1c.out; rw [hla] at h; exact h)
        have hlen1 : la.length = lj.length := by rw [hla]
        have HLEN1 := Aside0.mk hlen1; clear hlen1 hla
        go_wp2_with (first | (at_builtin; (try (refine gate_guard (by rfl) ?_; dsimp only)); refine wpList_append_own_none rfl _ _ 22 rfl w1.heap.size 29 i0 5 Tryz.underlying22 hi _ _ _ rfl HOWN1.out rfl ?_))
        rw [HLEN1.out]
        refine (lunetteref20_Same.calls kk A3 c3 lj A1 c1 lj true w4 (Kd.R_reads' HR3'.out).2.2 (Kd.R_reads' HR3'.out).2.1 (Kd.R_reads' HR1d.out).2.2 (Kd.R_reads' HR1d.out).2.1 HKK'.out).mono ?_
        rintro e w6 ⟨rfl, hb⟩
        have HB6 := Aside0.mk (below_step HB4.out hb); clear hb
        go_wp2
        go_ret
        exact ⟨rfl, HB6.out⟩
      · have HN2 := Aside0.mk (show ∀ (j : Nat) u, i2[j]? = some u → w4.cell? ((⟨g, 0, none⟩ : Addr).add j) = some u from fun j u hu => by
          have hj : j < lb.length * 5 := by
            have := (List.getElem?_eq_some_iff.1 hu).1
            rw [own2.1] at this
            exact this
          have := World.ownsRow.cellAt own2 j hj
          rw [hu] at this
          have e : (⟨g, 0, none⟩ : Addr).add j = ⟨g, j, none⟩ := by unfold Addr.add; split <;> simp_all
          rw [e]
          exact this)
        have hl2 : i2.length = lb.length * 5 := own2.1
        clear own2 hgg htk hcs
        go_wp2_with (first | (at_builtin; (try (refine gate_guard (by rfl) ?_; dsimp only)); refine wpList_append_own _ rfl _ _ 22 rfl w1.heap.size 29 i0 _ 5 96 Tryz.underlying22 hi hz0 hz1 hz2 rfl (by decide) _ _ _ rfl HOWN1.out ⟨g, 0, none⟩ lb.length cap i2 rfl hl2 HN2.out HONE2.out ?c3 ?c4 ?c5 ?_))
        case c3 => unfold maxLen; omega
        case c4 => omega
        case c5 => omega
        intro v' w5 hown' hgrow _
        have hrj : k29.R 29 w5 w1.heap.size (fun _ => True) v' lj := by
          rw [← HLJ.out]
          refine lines_joined HREP1.out (fun k hk => hk.2) HREP2.out (fun k hk he => ?_) ?_ hgrow
          · have := HLT1.out k he.symm
            omega
          · rw [List.length_append]; exact hown'
        have HRJ := Aside0.mk hrj; clear hrj hown'
        have HR3c := Aside0.mk (Kd.R_grown HR3b.out hgrow (fun k hk he => by
          have h1 := HLT1.out k he.symm
          have h2 := hk.2.1
          omega))
        have HB5 := Aside0.mk (HB4.out.grown hgrow HB4.out.size (fun k hk => by
          have h1 := HBA1.out k hk
          have h2 := HB1.out.size
          omega))
        clear hgrow
        obtain ⟨A4, c4, rfl⟩ := Kd.R_slice HRJ.out
        go_wp2_with fail
        refine (lunetteref20_Same.calls kk A3 c3 lj A4 c4 lj true w5 (Kd.R_reads' HR3c.out).2.2 (Kd.R_reads' HR3c.out).2.1 (Kd.R_reads' HRJ.out).2.2 (Kd.R_reads' HRJ.out).2.1 HKK'.out).mono ?_
        rintro e w6 ⟨rfl, hb⟩
        have HB6 := Aside0.mk (below_step HB5.out hb); clear hb
        go_wp2
        go_ret
        exact ⟨rfl, HB6.out⟩
end Go.Proofs.YtbdoafigggcdpaaGreatDoor.PScr
