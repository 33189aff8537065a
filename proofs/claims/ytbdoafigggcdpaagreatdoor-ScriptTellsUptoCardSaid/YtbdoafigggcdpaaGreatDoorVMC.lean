/- The walk of script.Read: it computes readAll. No condition of ours. -/
import Derived.Test.YtbdoafigggcdpaaGreatDoorVMB
import Derived.Test.YtbdoafigggcdpaaGreatDoorVPC
namespace Go.Proofs.YtbdoafigggcdpaaGreatDoor.PScr
open Go.RowKit Go.Proofs.YtbdoafigggcdpaaGreatDoorW.PrintWords Go.Proofs.YtbdoafigggcdpaaGreatDoorW.PrintLast Go.Proofs.YtbdoafigggcdpaaGreatDoorW.PrintMore
set_option linter.unusedVariables false
set_option linter.unusedSimpArgs false

theorem ents_small : ∀ i : Fin 14, (entAt i.val).bytes = false ∧ (entAt i.val).n ≤ 3 ∧ (entAt i.val).hi ≤ 8 ∧ (entAt i.val).word.data.toList.length ≤ 10 := by decide
theorem find_facts (w : ByteArray) : (findE w).sane ∧ (findB w = true → (findE w).n ≤ 3 ∧ (findE w).hi ≤ 8 ∧ w.size ≤ 10) := by
  rw [← size_len]
  unfold findB findE
  by_cases h1 : w.toList = ([115, 112, 111, 105, 108] : List UInt8)
  · rw [if_pos h1]
    have e : w.data.toList = ([115, 112, 111, 105, 108] : List UInt8) := by rw [← ByteArray.toList_eq]; exact h1
    rw [e]
    exact ⟨fun _ => ⟨rfl, rfl⟩, fun _ => ⟨Int.le_refl 3, (by decide : (0 : Int) ≤ 8), (by decide)⟩⟩
  · by_cases h2 : w.toList = ([114, 117, 108, 101, 115] : List UInt8)
    · rw [if_neg h1, if_pos h2]
      have e : w.data.toList = ([114, 117, 108, 101, 115] : List UInt8) := by rw [← ByteArray.toList_eq]; exact h2
      rw [e]
      exact ⟨fun h => (by cases h), fun _ => ⟨(by decide : (0 : Int) ≤ 3), (by decide : (0 : Int) ≤ 8), (by decide)⟩⟩
    · rw [if_neg h1, if_neg h2, beq_eq_false_iff_ne.2 h1, beq_eq_false_iff_ne.2 h2]
      by_cases h3 : idxE w 14 0 < 0
      · rw [if_pos h3, decide_eq_false (by omega)]
        exact ⟨fun h => (by cases h), fun h => (by cases h)⟩
      · rw [if_neg h3]
        have hr := idxE_range w 14 0
        have hj : (idxE w 14 0).toNat < 14 := by omega
        obtain ⟨e1, e2, e3, e5⟩ := ents_small ⟨_, hj⟩
        have e4 := idxE_hit w 14 0 (by omega)
        rw [ByteArray.toList_eq, ByteArray.toList_eq] at e4
        simp only at e1 e2 e3 e5
        rw [e4] at e5
        exact ⟨fun h => (by rw [e1] at h; cases h), fun _ => ⟨e2, e3, e5⟩⟩

/-! ### sizes -/
theorem fold_len : ∀ (fs : List ByteArray) (st : PS), (fs.foldl PS.step st).xs.length ≤ st.xs.length + fs.length ∧ (fs.foldl PS.step st).ts.length ≤ st.ts.length + fs.length ∧ (fs.foldl PS.step st).signs.size ≤ st.signs.size + fs.length
  | [], st => by simp
  | p :: fs, st => by
    have h1 := fold_len fs (st.step p)
    have h2 := PS.step_len st p
    simp only [List.foldl_cons, List.length_cons]
    omega
theorem line_len (s : ByteArray) : (lineOf s).f0.size ≤ s.size ∧ (lineOf s).f1.length ≤ s.size + 2 ∧ (lineOf s).f2.length ≤ s.size + 2 ∧ (lineOf s).f3.size ≤ s.size + 2 ∧ (lineOf s).f4.size ≤ s.size := by
  have h1 := cut1_size s ⟨#[32]⟩
  have h2 := cut2_size s ⟨#[32]⟩
  have hr : (restOf s).size ≤ s.size := h2
  have hp : (partsOf s).xs.length ≤ s.size + 2 ∧ (partsOf s).ts.length ≤ s.size + 2 ∧ (partsOf s).signs.size ≤ s.size + 2 := by
    unfold partsOf
    split
    · exact ⟨by simp, by simp, by show 0 ≤ _; omega⟩
    · have := fold_len (fieldsOf (restOf s)) ⟨[], [], ⟨#[]⟩⟩
      have hc : (fieldsOf (restOf s)).length ≤ s.size + 2 := by
        unfold fieldsOf Lib.fieldsD
        rw [List.length_map]
        have := fieldsGoD_count ((restOf s).data.toList.length + 1) [] (restOf s).data.toList
        rw [size_len] at this
        rw [size_len]
        omega
      have e0 : (⟨#[]⟩ : ByteArray).size = 0 := rfl
      simp only [List.length_nil, Nat.zero_add, e0] at this
      omega
  refine ⟨h1, hp.1, hp.2.1, hp.2.2, ?_⟩
  show (textOf s).size ≤ _
  unfold textOf
  split
  · exact hr
  · show 0 ≤ _
    omega
theorem good_small {x : S29} (h : goodL x = true) : x.f1.length ≤ 16 ∧ (∀ i : Nat, i < x.f1.length → 0 ≤ rd x.f1 i ∧ rd x.f1 i ≤ 1000000) ∧ x.f2.length ≤ 8 ∧ (∀ i : Nat, i < x.f2.length → (rd_T51 x.f2 (i : Int)).bad = false) ∧ (x.f3.toList = [] ∨ x.f3.size = x.f2.length) ∧ x.f4.size ≤ 100 ∧ x.f0.size ≤ 100 := by
  have G := good_is h
  obtain ⟨fn, fh, fw⟩ := (find_facts x.f0).2 G.is
  unfold goodL checkE at h
  simp only [Bool.and_eq_true, decide_eq_true_eq] at h
  obtain ⟨h0, h1, h2, h3, h4, h5, h6, h7, h8⟩ := h
  refine ⟨?_, ?_, by omega, ?_, ?_, ?_, by omega⟩
  · unfold numbersOk at h1
    split at h1
    · simp only [Bool.and_eq_true, decide_eq_true_eq] at h1; exact h1.2
    · simp only [decide_eq_true_eq] at h1; omega
  · intro i hi
    have e : rd x.f1 (i : Int) = x.f1[i] := by unfold rd; simp [hi]
    rw [e]
    exact G.nums _ (List.getElem_mem hi)
  · intro i hi
    rw [rd_T51_at _ _ hi]
    exact G.tups _ (List.getElem_mem hi)
  · rcases G.signs with h | h
    · exact .inl h
    · exact .inr h.1
  · unfold textOkE at h3
    split at h3
    · simp only [Bool.and_eq_true, decide_eq_true_eq] at h3; exact h3.2.1
    · rw [tl_nil (beq_iff_eq.1 h3)]; decide

/-! ### rows of lines -/
theorem reps_flatT (w : World) (base : Nat) (ok : Nat → Prop) : ∀ (ds ts : List S51) (cs : List Value), Reps (k51.M w base ok) 6 ds cs → Reps (k51.M w base ok) 6 (ds ++ ts) (cs ++ flatT ts)
  | ds, [], cs, h => by simpa [flatT] using h
  | ds, t :: ts, cs, h => by
    have := reps_flatT w base ok (ds ++ [t]) ts _ (h.snoc (k51_mkM w base ok t) rfl)
    simpa [flatT, List.append_assoc] using this
theorem row51 {w : World} {base : Nat} {v : Value} {ts : List S51} (h : w.ownsRow base 51 6 v ts.length (flatT ts)) : k51.R 51 w base (fun k => base ≤ k) v ts :=
  ⟨fun k hk => (own_blk h k hk).1, flatT ts, h, reps_flatT w base (fun k => (base ≤ k) ∧ some k ≠ v.ownBlock) [] ts [] (Reps.none _ _)⟩
theorem row3 {w : World} {base : Nat} {v : Value} {xs : List Int} (h : w.ownsRow base 3 1 v xs.length (xs.map (Value.int .i64))) : (Kd.int .i64).R 3 w base (fun k => base ≤ k) v xs :=
  Kd.R_of_own h (fun k hk => (own_blk h k hk).1)
/-- the line that parse hands over -/
def Line29 (base : Nat) (w : World) (v : Value) (x : S29) : Prop := ∃ A1 c1 A2 c2, v = .agg #[.string x.f0, .slice A1 x.f1.length c1, .slice A2 x.f2.length c2, .string x.f3, .string x.f4] ∧ (Kd.int .i64).R 3 w base (fun k => base ≤ k) (.slice A1 x.f1.length c1) x.f1 ∧ k51.R 51 w base (fun k => base ≤ k) (.slice A2 x.f2.length c2) x.f2
theorem parse29_any (w0 : World) (F : Facts w0) (s : ByteArray) (hs : s.size ≤ 900000) (w : World) (hB0 : Below w0.heap.size w0 w) (x : S29) (hx : lineOf s = x) :
    Calls Tryz.prog 39 #[.string s] w fun e w' => (∃ v, e = .returned v ∧ Line29 w.heap.size w' v x) ∧ Below w.heap.size w w' := by
  subst hx
  refine (parseL_any w0 F s hs w hB0).mono ?_
  rintro e w' ⟨⟨v, rfl, vN, vT, rfl, hN, hT⟩, hb⟩
  refine ⟨⟨_, rfl, ?_⟩, hb⟩
  have r3 := row3 hN
  have r5 := row51 hT
  obtain ⟨A1, c1, rfl⟩ := Kd.R_slice r3
  obtain ⟨A2, c2, rfl⟩ := Kd.R_slice r5
  exact ⟨A1, c1, A2, c2, rfl, r3, r5⟩
theorem Line29.below {base : Nat} {w w1 : World} {v : Value} {x : S29} (h : Line29 base w v x) (hb : Below w.heap.size w w1) : Line29 base w1 v x := by
  obtain ⟨A1, c1, A2, c2, rfl, h1, h2⟩ := h
  exact ⟨A1, c1, A2, c2, rfl, Kd.R_below h1 hb, Kd.R_below h2 hb⟩
theorem info29 : (Tryz.prog.info? 29).map (fun i => (i.zero, i.size, i.bytes)) = some (some (.agg #[.string ⟨#[]⟩, .slice none 0 0, .slice none 0 0, .string ⟨#[]⟩, .string ⟨#[]⟩]), 5, 96) := by kernel_rfl
def sizeV : Value → Nat
  | .string b => b.size
  | _ => 0

/-- what Read tells of a text -/
def readErr (r : List S29 × Nat × Bool) : Int := if r.2.2 then 0 else 200
set_option maxRecDepth 100000 in
set_option maxHeartbeats 4000000 in
theorem read_any (w0 : World) (F : Facts w0) (s : ByteArray) (hs : s.size ≤ 900000) (w : World) (hB0 : Below w0.heap.size w0 w) (hE : EntsIn w) (r : List S29 × Nat × Bool) (hr : readAll s = r) :
    Calls Tryz.prog 14 #[.string s] w fun e w' => (∃ v, e = .returned (.tuple #[v, .int .i64 (r.2.1 : Nat), .int .i64 (readErr r)]) ∧ k29.R 29 w' w.heap.size (fun _ => True) v r.1) ∧ Below w.heap.size w w' := by
  have hu29 := Tryz.underlying29
  have hu22 := Tryz.underlying22
  have HB0 := Aside0.mk hB0; clear hB0
  have HE := Aside0.mk hE; clear hE
  have HR := Aside0.mk hr; clear hr
  go_enter Tryz.func14, Tryz.ntmps14
  go_upto_region 3 with fail
  go_loopw [0, 5, 6] (fun s0 v n wx => ∃ (sx : ByteArray) (acc : List S29) (k : Nat), s0 = .string sx ∧ n = .int .i64 k ∧ Aside0 (readGo (sx.size + 1) sx acc k = r) ∧ Aside0 (sx.size ≤ 900000 ∧ sx.size + k ≤ s.size + 1 ∧ acc.length + 1 = k) ∧ k29.R 29 wx w.heap.size (fun _ => True) v acc ∧ Below w.heap.size w wx) (fun s0 _ _ _ => sizeV s0)
  case atStart => exact ⟨s, [], 1, rfl, rfl, ⟨HR.out⟩, ⟨⟨hs, Nat.le_refl _, rfl⟩⟩, Kd.R_nil _ _ _ _ _, Below.refl _ _⟩
  case round =>
    obtain ⟨sx, acc, k, rfl, rfl, HGO, HSZ, hrow, hbw⟩ := hrel
    have HROW := Aside0.mk hrow; clear hrow
    have HBW := Aside0.mk hbw; clear hbw
    by_cases h0 : sx.toList = ([] : List UInt8)
    · have e1 : (sx.toList == ([] : List UInt8)) = true := beq_iff_eq.2 h0
      have hz : sx = ⟨#[]⟩ := tl_nil h0
      have hgo := HGO.out
      rw [hz] at hgo
      have hgo' : (acc, 0, true) = r := hgo
      have HG := Aside0.mk hgo'; clear hgo hgo' hz
      go_wp2
      go_ret3
      refine ⟨⟨u5, ?_, ?_⟩, HBW.out⟩
      rotate_left
      · rw [← HG.out]; exact HROW.out
      · rw [← HG.out]; rfl
    · have e1 : (sx.toList == ([] : List UInt8)) = false := beq_eq_false_iff_ne.2 h0
      have hz : sx.size ≠ 0 := fun h => h0 (by
        have := size_len sx
        rw [h] at this
        rw [ByteArray.toList_eq]
        exact List.length_eq_zero_iff.1 this)
      have hgo := HGO.out
      have hg2 : readGo (sx.size + 1) sx acc k = if lineGood sx then readGo sx.size (cut2 sx nlb) (acc ++ [lineOf (cut1 sx nlb)]) (k + 1) else ([], k, false) := by rw [readGo, if_neg hz]
      rw [hg2] at hgo
      clear hg2
      have hlg : lineGood sx = (goodL (lineOf (cut1 sx nlb)) && Lib.hasPrefix sx.data.toList (textLn (lineOf (cut1 sx nlb))).data.toList) := rfl
      rw [hlg] at hgo
      clear hlg
      have hz1 := cut1_size sx nlb
      have hz2 := cut2_size sx nlb
      have hll := line_len (cut1 sx nlb)
      have hless := good_less sx
      obtain ⟨one, hone⟩ : ∃ x, cut1 sx nlb = x := ⟨_, rfl⟩
      obtain ⟨rest, hrest⟩ : ∃ x, cut2 sx nlb = x := ⟨_, rfl⟩
      rw [hone] at hz1 hgo hll
      rw [hrest] at hz2 hgo hless
      obtain ⟨x, hx⟩ : ∃ x, lineOf one = x := ⟨_, rfl⟩
      rw [hx] at hgo hll
      have HGO2 := Aside0.mk hgo; clear hgo
      have HONE := Aside0.mk hone; have HREST := Aside0.mk hrest; have HX := Aside0.mk hx
      clear hone hrest hx
      have HLESS := Aside0.mk hless; clear hless
      obtain ⟨hl0, hl1, hl2, hl3, hl4⟩ := hll
      have hsz := HSZ.out.1
      obtain ⟨gd, hgd⟩ : ∃ b, goodL x = b := ⟨_, rfl⟩
      obtain ⟨pf, hpf⟩ : ∃ b, Lib.hasPrefix sx.data.toList (textLn x).data.toList = b := ⟨_, rfl⟩
      have HGD := Aside0.mk hgd; clear hgd
      have HPF := Aside0.mk hpf; clear hpf
      have hBw : Below w0.heap.size w0 wr := below_weaken HB0.out HB0.out.size HBW.out
      go_wp2_with fail
      refine (cut_any sx ⟨#[10]⟩ (by omega) _ (most_below hBw F.most)).mono ?_
      rintro e w1 ⟨rfl, hb⟩
      rw [show cut1 sx ⟨#[10]⟩ = one from HONE.out, show cut2 sx ⟨#[10]⟩ = rest from HREST.out]
      have HB1 := Aside0.mk (below_step HBW.out hb)
      have HR1 := Aside0.mk (Kd.R_below HROW.out hb)
      clear hb hBw
      have hBw : Below w0.heap.size w0 w1 := below_weaken HB0.out HB0.out.size HB1.out
      go_wp2_with fail
      refine (parse29_any w0 F one (by omega) _ hBw x HX.out).mono ?_
      rintro e w2 ⟨⟨v2, rfl, A1, c1, A2, c2, rfl, g1, g2⟩, hb⟩
      have HG1 := Aside0.mk g1; clear g1
      have HG2 := Aside0.mk g2; clear g2
      have HB2 := Aside0.mk (below_step HB1.out hb)
      have HR2 := Aside0.mk (Kd.R_below HR1.out hb)
      have hw12 : w1.heap.size ≤ w2.heap.size := hb.size
      clear hb hBw
      have HL1 := Aside0.mk (Kd.R_lt HR1.out)
      have hchk := checkL_any x.f0 A1 c1 x.f1 A2 c2 x.f2 x.f3 x.f4 (by omega) (by omega) (by omega) (by omega) (w2.alloc (.cells #[.string x.f0, .slice A1 x.f1.length c1, .slice A2 x.f2.length c2, .string x.f3, .string x.f4] 29)) (HE.out.below (below_alloc HB2.out _)) (Kd.C_below (Kd.R_reads' HG1.out).2.2 (below_alloc (Below.refl _ _) _)) (Kd.C_below (Kd.R_reads' HG2.out).2.2 (below_alloc (Below.refl _ _) _)) _ _ rfl rfl (find_facts x.f0).1
      rw [show checkE (findE x.f0) (findB x.f0) x.f1 x.f2 x.f3 x.f4 = gd from HGD.out] at hchk
      have HK2 := Aside0.mk (box_blk w2 #[.string x.f0, .slice A1 x.f1.length c1, .slice A2 x.f2.length c2, .string x.f3, .string x.f4] 29)
      go_wp2_with fail
      refine hchk.mono ?_
      clear hchk
      rintro e w3 ⟨rfl, hb⟩
      have HB3 := Aside0.mk (below_step (below_alloc HB2.out _) hb)
      have HR3 := Aside0.mk (Kd.R_below (Kd.R_alloc HR2.out _) hb)
      have HG3 := Aside0.mk (Kd.R_below (Kd.R_alloc HG1.out _) hb)
      have HG4 := Aside0.mk (Kd.R_below (Kd.R_alloc HG2.out _) hb)
      have HK3 := Aside0.mk (blk_below HK2.out hb)
      have hw23 : w2.heap.size < w3.heap.size := blk_lt HK3.out
      clear hb
      have z0 := (blk_cell HK3.out 0).trans rfl; have z1 := (blk_cell HK3.out 1).trans rfl; have z2 := (blk_cell HK3.out 2).trans rfl; have z3 := (blk_cell HK3.out 3).trans rfl; have z4 := (blk_cell HK3.out 4).trans rfl;
      cases gd with
      | false =>
        have hgo := HGO2.out
        rw [HGD.out, Bool.false_and] at hgo
        have hgo2 : ([], k, false) = r := hgo
        have HG := Aside0.mk hgo2; clear hgo hgo2
        go_wp2
        go_ret3
        refine ⟨⟨.slice none 0 0, ?_, ?_⟩, HB3.out⟩
        rotate_left
        · rw [← HG.out]; exact Kd.R_nil _ _ _ _ _
        · rw [← HG.out]; rfl
      | true =>
        obtain ⟨s1, s2, s3, s4, s5, s6, s7⟩ := good_small HGD.out
        have hBw : Below w0.heap.size w0 w3 := below_weaken HB0.out HB0.out.size HB3.out
        have htx := textL_any w0 F x.f0 A1 c1 x.f1 A2 c2 x.f2 x.f3 x.f4 s1 s2 s3 s4 s5 s6 s7 w3 hBw (Kd.R_reads' HG3.out).2.2 (Kd.R_reads' HG4.out).2.2
        rw [show lineText x.f0 x.f1 x.f2 x.f3 x.f4 = textLn x from rfl] at htx
        clear hBw s2 s4 s5
        go_wp2_with fail
        refine htx.mono ?_
        clear htx
        rintro e w4 ⟨rfl, hb⟩
        have HB4 := Aside0.mk (below_step HB3.out hb)
        have HR4 := Aside0.mk (Kd.R_below HR3.out hb)
        have HG5 := Aside0.mk (Kd.R_below HG3.out hb)
        have HG6 := Aside0.mk (Kd.R_below HG4.out hb)
        have HK4 := Aside0.mk (blk_below HK3.out hb)
        have hw34 : w3.heap.size ≤ w4.heap.size := hb.size
        clear hb z0 z1 z2 z3 z4
        have z0 := (blk_cell HK4.out 0).trans rfl; have z1 := (blk_cell HK4.out 1).trans rfl; have z2 := (blk_cell HK4.out 2).trans rfl; have z3 := (blk_cell HK4.out 3).trans rfl; have z4 := (blk_cell HK4.out 4).trans rfl;
        have hhp := Tryz.strings_HasPrefix sx (textLn x) w4
        rw [HPF.out] at hhp
        go_wp2_with fail
        refine hhp.mono ?_
        clear hhp
        rintro e w5 ⟨rfl, rfl⟩
        cases pf with
        | false =>
          have hgo := HGO2.out
          rw [HGD.out, HPF.out, Bool.true_and] at hgo
          have hgo2 : ([], k, false) = r := hgo
          have HG := Aside0.mk hgo2; clear hgo hgo2
          go_wp2
          go_ret3
          refine ⟨⟨.slice none 0 0, ?_, ?_⟩, HB4.out⟩
          rotate_left
          · rw [← HG.out]; exact Kd.R_nil _ _ _ _ _
          · rw [← HG.out]; rfl
        | true =>
          have hgo := HGO2.out
          rw [HGD.out, HPF.out, Bool.true_and, if_pos rfl] at hgo
          have HG := Aside0.mk hgo; clear hgo
          have hlg : lineGood sx = true := by unfold lineGood; rw [HONE.out, HX.out, HGD.out]; exact HPF.out
          have hlt := HLESS.out hlg
          have hsz4 := HSZ.out
          have hbase1 : w.heap.size ≤ w1.heap.size := HB1.out.size
          have hp := k29_mkM w5 w.heap.size (fun k => w1.heap.size ≤ k) x (Kd.R_lower HG5.out hbase1) (Kd.R_lower HG6.out hbase1)
          have HP := Aside0.mk hp; clear hp
          have HOK := Aside0.mk (show ∀ k, (fun k => w1.heap.size ≤ k) k → (fun _ : Nat => True) k ∧ some k ≠ u5.ownBlock from fun k hk => ⟨trivial, fun h => by have := HL1.out k h.symm; simp only at hk; omega⟩)
          clear hlg
          go_wp2_with (first
            | (at_builtin; refine Kd.R_append k29 (w0 := w) w.heap.size rfl _ _ 22 29 _ 96 rfl Tryz.underlying22 info29 rfl (by decide) (by decide) u5 acc x [.string x.f0, .slice A1 x.f1.length c1, .slice A2 x.f2.length c2, .string x.f3, .string x.f4] (fun _ => True) (fun k => w1.heap.size ≤ k) rfl rfl HP.out HOK.out (fun _ _ => trivial) HR4.out HB4.out HB4.out.size (by omega) ?_))
          intro v6 w6 hr6 hb6 _ _
          have HR6 := Aside0.mk hr6; clear hr6
          have HB6 := Aside0.mk hb6; clear hb6
          go_wp2
          exact ⟨⟨rest, acc ++ [x], k + 1, rfl, by go_num, ⟨by rw [← HG.out]; exact readGo_fuel _ _ _ _ _ (by omega) (by omega)⟩, ⟨⟨by omega, by omega, by simp; omega⟩⟩, HR6.out, HB6.out⟩, by simp only [sizeV]; omega⟩
end Go.Proofs.YtbdoafigggcdpaaGreatDoor.PScr
