/- The walk of script.parse. No condition of ours. -/
import Derived.Test.YtbdoafigggcdpaaGreatDoorVMA
import Derived.BigRegion
namespace Go.Proofs.YtbdoafigggcdpaaGreatDoor.PScr
open Go.RowKit Go.Proofs.YtbdoafigggcdpaaGreatDoorW.PrintWords Go.Proofs.YtbdoafigggcdpaaGreatDoorW.PrintLast Go.Proofs.YtbdoafigggcdpaaGreatDoorW.PrintMore
set_option linter.unusedVariables false
set_option linter.unusedSimpArgs false

theorem size_alloc1 (w : World) {o : Obj} : (w.alloc o).heap.size = w.heap.size + 1 := by simp
theorem field_cell {w : World} {base A n c : Nat} {fs : List ByteArray} (h : w.ownsRow base 9 1 (.slice (some ⟨A, 0, none⟩) n c) fs.length (fs.map Value.string)) {k : Nat} (hk : k < fs.length) : w.cell? ⟨A, k, none⟩ = some (.string fs[k]) := by
  rcases h.2 with ⟨h0, _⟩ | ⟨g, cap, cur, hv, hb, hg, h3, h4, h5, h6⟩
  · cases h0
  · cases hv
    rw [blk_cell hg]
    have h7 : (cur.toList.take (fs.length * 1))[k]? = (fs.map Value.string)[k]? := by rw [h6]
    rw [List.getElem?_take, if_pos (by omega)] at h7
    rw [← Array.getElem?_toList, h7]
    simp [hk]
theorem own_else {w w1 : World} {B e1 e2 s1 s2 : Nat} {vT vN : Value} {n m : Nat} {ys xs : List Value} (hT : w.ownsRow B e1 s1 vT n ys) (hN : w.ownsRow B e2 s2 vN m xs) (hne : e1 ≠ e2) (hg : w.grownBy w1 vN.ownBlock) : w1.ownsRow B e1 s1 vT n ys := by
  obtain ⟨h1, h2⟩ := hT
  refine ⟨h1, ?_⟩
  rcases h2 with h2 | ⟨g, cap, cur, rfl, hb, hgg, h3⟩
  · exact .inl h2
  · refine .inr ⟨g, cap, cur, rfl, hb, blk_grown hgg hg ?_, h3⟩
    intro h
    rcases hN.2 with ⟨rfl, _⟩ | ⟨g', cap', cur', rfl, _, hgg', _⟩
    · simp [Value.ownBlock] at h
    · simp only [Value.ownBlock, Option.some.injEq] at h
      subst h
      rw [hgg] at hgg'
      injection hgg' with hgg'
      injection hgg' with _ hgg' _
      exact hne hgg'
theorem info51 : (Tryz.prog.info? 51).map (fun i => (i.zero, i.size, i.bytes)) = some (some (.agg #[.string ⟨#[]⟩, .string ⟨#[]⟩, .string ⟨#[]⟩, .string ⟨#[]⟩, .string ⟨#[]⟩, .string ⟨#[]⟩]), 6, 96) := by kernel_rfl
theorem readTuple51_any (q : ByteArray) (hs : q.size < 4294967281) (w : World) (hm : ∃ m : Int, w.cell? ⟨2, 0, none⟩ = some (.int .i64 m)) (t : S51) (ht : readOf q = t) :
    Calls Tryz.prog 78 #[.string q] w fun e w' => (∃ c : Int, e = .returned (.tuple #[.agg #[.string t.f0, .string t.f1, .string t.f2, .string t.f3.f0, .string t.f3.f1, .string t.f3.f2], .int .i64 c])) ∧ Below w.heap.size w w' := by
  subst ht
  refine (readTuple_any q hs w hm _ _ _ _ _ _ ⟨rfl, rfl, rfl, rfl, rfl, rfl⟩).mono ?_
  rintro e w' ⟨rfl, hb⟩
  refine ⟨?_, hb⟩
  simp only [readOf]
  cases hc : (tupleOk (parseK (cut1 q ⟨#[64]⟩)) (parseI (cut1 q ⟨#[64]⟩)) (parseR (cut1 q ⟨#[64]⟩)) (parseK (cut2 q ⟨#[64]⟩)) (parseI (cut2 q ⟨#[64]⟩)) (parseR (cut2 q ⟨#[64]⟩)) && (tupleText (parseK (cut1 q ⟨#[64]⟩)) (parseI (cut1 q ⟨#[64]⟩)) (parseR (cut1 q ⟨#[64]⟩)) (parseK (cut2 q ⟨#[64]⟩)) (parseI (cut2 q ⟨#[64]⟩)) (parseR (cut2 q ⟨#[64]⟩))).toList == q.toList)
  · exact ⟨_, rfl⟩
  · exact ⟨_, rfl⟩
theorem blk_two (w : World) (o : Obj) (cs : Array Value) (t : TypeId) : ((w.alloc o).alloc (.cells cs t)).heap[w.heap.size + 1]? = some (.cells cs t (0, 0)) := by
  have := box_blk (w.alloc o) cs t
  rwa [size_alloc1] at this
/-- a line as a value whose slices are the call's own -/
def LineVal (base : Nat) (w' : World) (v : Value) (word : ByteArray) (p : PS) (text : ByteArray) : Prop :=
  ∃ vN vT, v = .agg #[.string word, vN, vT, .string p.signs, .string text] ∧ w'.ownsRow base 3 1 vN p.xs.length (p.xs.map (Value.int .i64)) ∧ w'.ownsRow base 51 6 vT p.ts.length (flatT p.ts)

set_option maxRecDepth 100000 in
set_option maxHeartbeats 4000000 in
theorem parseL_any (w0 : World) (F : Facts w0) (s : ByteArray) (hs : s.size ≤ 900000) (w : World) (hB0 : Below w0.heap.size w0 w) :
    Calls Tryz.prog 39 #[.string s] w fun e w' => (∃ v, e = .returned v ∧ LineVal w.heap.size w' v (wordOf s) (partsOf s) (textOf s)) ∧ Below w.heap.size w w' := by
  have hu29 := Tryz.underlying29
  have HK := Aside0.mk (box_blk w #[.string ⟨#[]⟩, .slice none 0 0, .slice none 0 0, .string ⟨#[]⟩, .string ⟨#[]⟩] 29)
  have HB := Aside0.mk (below_alloc (Below.refl w.heap.size w) (.cells #[.string ⟨#[]⟩, .slice none 0 0, .slice none 0 0, .string ⟨#[]⟩, .string ⟨#[]⟩] 29))
  have HM := Aside0.mk (most_below hB0 F.most)
  have HB0 := Aside0.mk hB0; clear hB0
  have h1 := cut1_size s ⟨#[32]⟩
  have h2 := cut2_size s ⟨#[32]⟩
  go_enter Tryz.func39, Tryz.ntmps39
  go_wp2_with fail
  refine (cut_any s ⟨#[32]⟩ (by omega) _ (most_below HB.out HM.out)).mono ?_
  rintro e w1 ⟨rfl, hb⟩
  have HK1 := Aside0.mk (blk_below HK.out hb)
  have HB1 := Aside0.mk (below_step HB.out hb)
  clear hb
  obtain ⟨word, hword⟩ : ∃ x, cut1 s ⟨#[32]⟩ = x := ⟨_, rfl⟩
  obtain ⟨rest, hrest⟩ : ∃ x, cut2 s ⟨#[32]⟩ = x := ⟨_, rfl⟩
  have hw : wordOf s = word := hword
  have hr : restOf s = rest := hrest
  rw [hword] at h1 ⊢
  rw [hrest] at h2 ⊢
  have HW := Aside0.mk hw; clear hw hword
  have HR := Aside0.mk hr; clear hr hrest
  have hlt := blk_lt HK1.out
  by_cases hrul : word.toList = ([114, 117, 108, 101, 115] : List UInt8)
  · have e1 : (word.toList == ([114, 117, 108, 101, 115] : List UInt8)) = true := beq_iff_eq.2 hrul
    have his : isRules s = true := by unfold isRules; rw [HW.out]; exact e1
    have HIS := Aside0.mk his; clear his hrul
    have z0 := (blk_cell HK1.out 0).trans rfl; have y0 := blk_frozen HK1.out 0; have z1 := (blk_cell HK1.out 1).trans rfl; have y1 := blk_frozen HK1.out 1; have z2 := (blk_cell HK1.out 2).trans rfl; have y2 := blk_frozen HK1.out 2; have z3 := (blk_cell HK1.out 3).trans rfl; have y3 := blk_frozen HK1.out 3; have z4 := (blk_cell HK1.out 4).trans rfl; have y4 := blk_frozen HK1.out 4;
    go_wp2
    have KV := blk_alloc (blk_set (blk_set (blk_set (blk_set (blk_set HK1.out 0 (.string word)) 1 (.slice none 0 0)) 2 (.slice none 0 0)) 3 (.string ⟨#[]⟩)) 4 (.string rest)) (.cells #[.string word, .slice none 0 0, .slice none 0 0, .string ⟨#[]⟩, .string rest] 29)
    refine bodyPost_ret (results_cell_row rfl _ _ w.heap.size 29 #[.string word, .slice none 0 0, .slice none 0 0, .string ⟨#[]⟩, .string rest] (0, 0) _ rfl KV Tryz.underlying29 rfl (by kernel_rfl)) rfl ?_
    refine ⟨⟨_, rfl, ?_⟩, below_alloc (((((HB1.out.setCell (Nat.le_refl _) _).setCell (Nat.le_refl _) _).setCell (Nat.le_refl _) _).setCell (Nat.le_refl _) _).setCell (Nat.le_refl _) _) _⟩
    unfold LineVal partsOf textOf
    rw [HIS.out, HW.out, HR.out]
    exact ⟨_, _, rfl, World.ownsRow_nil _ _ _ _, World.ownsRow_nil _ _ _ _⟩
  · have e1 : (word.toList == ([114, 117, 108, 101, 115] : List UInt8)) = false := beq_eq_false_iff_ne.2 hrul
    have his : isRules s = false := by unfold isRules; rw [HW.out]; exact e1
    have HIS := Aside0.mk his; clear his hrul
    have HKL := box_blk w1 #[.string word, .slice none 0 0, .slice none 0 0, .string ⟨#[]⟩, .string ⟨#[]⟩] 29
    have HKR := blk_below HK1.out (below_alloc (Below.refl w1.heap.size w1) (.cells #[.string word, .slice none 0 0, .slice none 0 0, .string ⟨#[]⟩, .string ⟨#[]⟩] 29))
    have HBB := below_alloc HB1.out (.cells #[.string word, .slice none 0 0, .slice none 0 0, .string ⟨#[]⟩, .string ⟨#[]⟩] 29)
    have hF0 : Below w0.heap.size w0 (w1.alloc (.cells #[.string word, .slice none 0 0, .slice none 0 0, .string ⟨#[]⟩, .string ⟨#[]⟩] 29)) := below_weaken HB0.out HB0.out.size HBB
    have hfd := Tryz.strings_Fields_any rest (w1.alloc (.cells #[.string word, .slice none 0 0, .slice none 0 0, .string ⟨#[]⟩, .string ⟨#[]⟩] 29)) (by omega) (var_below hF0 F.space) (WhiteTab_below F.white hF0)
    have HKL1 := Aside0.mk HKL; clear HKL
    have HKR1 := Aside0.mk HKR; clear HKR
    have HBB1 := Aside0.mk HBB; clear HBB
    have HF0 := Aside0.mk hF0; clear hF0
    go_wp2_with fail
    refine hfd.mono ?_
    rintro e w2 ⟨A, rfl, hA, hown, hb⟩
    have HKR2 := Aside0.mk (blk_below HKR1.out hb)
    have HKL2 := Aside0.mk (blk_below HKL1.out hb)
    have HBB2 := Aside0.mk (below_step HBB1.out hb)
    have hlb : w1.heap.size < A := by rw [size_alloc1] at hA; omega
    obtain ⟨lb, hlbe⟩ : ∃ lb, w1.heap.size = lb := ⟨_, rfl⟩
    rw [hlbe] at HKL2 hlb hlt ⊢
    have hfl : (Lib.fieldsD rest.data.toList).length = (fieldsOf rest).length := by simp [fieldsOf]
    have hfm : (Lib.fieldsD rest.data.toList).map (fun x => Value.string ⟨x.toArray⟩) = (fieldsOf rest).map Value.string := by simp [fieldsOf]
    have hfz : ∀ x ∈ fieldsOf rest, 0 < x.size ∧ x.size ≤ 900000 := by
      intro x hx
      unfold fieldsOf at hx
      obtain ⟨y, hy, rfl⟩ := List.mem_map.1 hx
      have n1 := fieldsGoD_ne _ _ _ y hy
      have n2 := fieldsGoD_len _ _ _ y hy
      have e : (⟨y.toArray⟩ : ByteArray).size = y.length := by show (List.toArray y).size = _; simp
      have e3 : rest.data.toList.length = rest.size := by rw [Array.length_toList]; rfl
      rw [e]
      simp only [List.length_nil, Nat.zero_add] at n2
      constructor
      · rcases y with _ | ⟨a, r⟩
        · exact absurd rfl n1
        · simp
      · omega
    have hfc : (fieldsOf rest).length ≤ 900002 := by
      rw [← hfl]
      have := fieldsGoD_count (rest.data.toList.length + 1) [] rest.data.toList
      have e3 : rest.data.toList.length = rest.size := by rw [Array.length_toList]; rfl
      unfold Lib.fieldsD
      omega
    have hpo : partsOf s = (fieldsOf rest).foldl PS.step ⟨[], [], ⟨#[]⟩⟩ := by unfold partsOf; rw [HIS.out, HR.out]; rfl
    rw [hfl, hfm] at hown
    rw [hfl]
    obtain ⟨fs, hfs⟩ : ∃ fs, fieldsOf rest = fs := ⟨_, rfl⟩
    rw [hfs] at hown hfz hfc hpo ⊢
    have HOWN := Aside0.mk hown; clear hown
    have HFZ := Aside0.mk hfz; clear hfz
    have HPO := Aside0.mk hpo; clear hpo
    clear hfl hfm hfs hfd
    go_upto_region 8 with fail
    go_loopw [29] (fun i wx => ∃ (k : Nat) (st : PS), k ≤ fs.length ∧ i = .int .i64 k ∧ Aside0 ((fs.drop k).foldl PS.step st = fs.foldl PS.step ⟨[], [], ⟨#[]⟩⟩) ∧ Aside0 (st.xs.length ≤ k ∧ st.ts.length ≤ k ∧ st.signs.size ≤ k) ∧ LineAt wx lb w2.heap.size word st.xs st.ts st.signs ⟨#[]⟩ ∧ Kp w2.heap.size lb w2 wx) (fun i _ => fs.length - (intOf i).toNat)
    case atStart => exact ⟨0, ⟨[], [], ⟨#[]⟩⟩, by omega, rfl, ⟨rfl⟩, ⟨⟨Nat.le_refl _, Nat.le_refl _, Nat.le_refl _⟩⟩, ⟨_, _, HKL2.out, World.ownsRow_nil _ _ _ _, World.ownsRow_nil _ _ _ _⟩, ⟨rfl, rfl, rfl, Nat.le_refl _, fun _ _ _ => rfl⟩⟩
    case round =>
      obtain ⟨k, st, hk, rfl, HST, HLN, hla, hkp⟩ := hrel
      have HLA := Aside0.mk hla; clear hla
      have HKP := Aside0.mk hkp; clear hkp
      by_cases hlt2 : k < fs.length
      · have hcell : wr.cell? ⟨A, k, none⟩ = some (.string fs[k]) := by
          have h := field_cell HOWN.out hlt2
          have hAlt : A < w2.heap.size := by have := World.block_lt_of_cell? w2 _ h; exact this
          have := HKP.out.block A hAlt (by omega)
          rw [World.cell?_of_block this]; exact h
        have hz := HFZ.out fs[k] (List.getElem_mem _)
        have hdr : fs.drop k = fs[k] :: fs.drop (k + 1) := List.drop_eq_getElem_cons hlt2
        have hnx := HST.out
        rw [hdr, List.foldl_cons] at hnx
        have HNX := Aside0.mk hnx; clear hnx hdr
        obtain ⟨p, hp⟩ : ∃ p, fs[k] = p := ⟨_, rfl⟩
        rw [hp] at hcell hz HNX
        clear hp
        have q1 : (k : Int) < (fs.length : Int) := by omega
        have hBw0 : Below w0.heap.size w0 wr := by
          have h1 := HBB2.out.size
          have h2 := HB0.out.size
          have h3 := below_weaken HB0.out h2 (HBB2.out)
          have h4 := blk_lt HKR2.out
          exact ⟨HKP.out.os.trans h3.os, HKP.out.tape.trans h3.tape, HKP.out.output.trans h3.output, Nat.le_trans h3.size HKP.out.size, fun g hg => (HKP.out.block g (by omega) (by omega)).trans (h3.block g hg)⟩
        have hnum := number_any w0 F w2.heap.size lb (by have := HB0.out.size; omega) (by have := blk_lt HKL2.out; omega) word st.signs ⟨#[]⟩ st.xs st.ts (by have := HLN.out.1; omega) p (by omega) wr hBw0 HKP.out.size HLA.out
        have HBW0 := Aside0.mk hBw0; clear hBw0
        cases hn : numOf p with
        | some n =>
          rw [hn] at hnum
          go_wp2_with (first | (go_at_call 75; refine hnum.mono ?_; rintro e w3 ⟨rfl, hla3, hkp3⟩))
          have hstep : st.step p = ⟨st.xs ++ [n], st.ts, st.signs⟩ := by unfold PS.step; rw [hn]
          have hb3 := HLN.out
          exact ⟨⟨k + 1, ⟨st.xs ++ [n], st.ts, st.signs⟩, by omega, by go_num, ⟨by rw [← hstep]; exact HNX.out⟩, ⟨by simp; omega⟩, hla3, HKP.out.trans hkp3⟩, by simp [intOf]; omega⟩
        | none =>
          rw [hn] at hnum
          have hz0 : 0 < p.size := hz.1
          have hgg := get_get p 0 hz0
          obtain ⟨c, hc⟩ : ∃ c : UInt8, p[0]'hz0 = c := ⟨_, rfl⟩
          rw [hc] at hgg
          have HNUM := Aside0.mk hnum; clear hnum
          have hsd : signed p = ((c.toNat == 43) || (c.toNat == 45)) := by unfold signed; rw [hgg]
          have HSD := Aside0.mk hsd; clear hsd
          go_upto_region 11 with (first | (go_at_call 75; refine HNUM.out.mono ?_; rintro e w3 ⟨rfl, hla3, hkp3⟩; have HLA3 := Aside0.mk hla3; have HKP3 := Aside0.mk hkp3; clear hla3 hkp3))
          go_cut [43] (fun s43 wx => s43 = .bool (signed p) ∧ wx = w3)
          case first =>
            by_cases hsg : c.toNat = 43
            · have s1 : ((c.toNat : Int) == 43) = true := by simp [hsg]
              go_wp2
              go_meet
              exact ⟨by rw [HSD.out]; simp [hsg], rfl⟩
            · have s1 : ((c.toNat : Int) == 43) = false := by rw [beq_eq_false_iff_ne]; omega
              by_cases hsh : c.toNat = 45
              · have s2 : ((c.toNat : Int) == 45) = true := by simp [hsh]
                go_wp2
                go_meet
                exact ⟨by rw [HSD.out]; simp [hsh], rfl⟩
              · have s2 : ((c.toNat : Int) == 45) = false := by rw [beq_eq_false_iff_ne]; omega
                go_wp2
                go_meet
                exact ⟨by rw [HSD.out]; simp [hsg, hsh], rfl⟩
          case rest =>
            obtain ⟨rfl, rfl⟩ := hcut
            obtain ⟨sg, hsgd⟩ : ∃ b, signed p = b := ⟨_, rfl⟩
            have HSG := Aside0.mk hsgd
            rw [hsgd]
            clear hsgd HSD
            go_upto_if 43 with fail
            go_cut [9] (fun p9 wx => p9 = .string (if signed p then p.extract 1 p.size else p) ∧ LineAt wx lb w2.heap.size word st.xs st.ts (if signed p then st.signs ++ p.extract 0 1 else st.signs) ⟨#[]⟩ ∧ Kp w2.heap.size lb wr wx)
            case first =>
              cases sg
              · go_wp2
                go_meet
                rw [HSG.out]
                exact ⟨rfl, HLA3.out, HKP3.out⟩
              · obtain ⟨vN, vT, hL3, hN3, hT3⟩ := HLA3.out
                have HL3 := Aside0.mk hL3; clear hL3
                have HN3 := Aside0.mk hN3; clear hN3
                have HT3 := Aside0.mk hT3; clear hT3
                have c3 := (blk_cell HL3.out 3).trans rfl
                have f3 := blk_frozen HL3.out 3
                have hb3 := HLN.out.2.2
                have q3 : (p.extract 0 1).size ≤ 1 := by rw [ByteArray.size_extract]; omega
                have q4 : (9223372036854775807 < st.signs.size + (p.extract 0 1).size) = False := eq_false (by omega)
                have q5 : (1 : Int) ≤ (p.size : Int) := by omega
                have hlb3 : lb < w2.heap.size := by have := blk_lt HKL2.out; omega
                go_upto_region 12 with fail
                go_region
                go_wp2
                go_meet
                rw [HSG.out]
                refine ⟨rfl, ⟨vN, vT, blk_set HL3.out 3 (.string (st.signs ++ p.extract 0 1)), RowKit.ownsRow_setCell_below HN3.out hlb3 _, RowKit.ownsRow_setCell_below HT3.out hlb3 _⟩, HKP3.out.trans ⟨rfl, rfl, rfl, by simp, fun g hg hne => Below.heap_setCell _ _ _ _ hne⟩⟩
            case rest =>
              obtain ⟨rfl, hla4, hkp4⟩ := hcut
              have HLA4 := Aside0.mk hla4; clear hla4
              have HKP4 := Aside0.mk hkp4; clear hkp4
              obtain ⟨q, hq⟩ : ∃ q, (if signed p then p.extract 1 p.size else p) = q := ⟨_, rfl⟩
              obtain ⟨sg2, hsg2⟩ : ∃ q, (if signed p then st.signs ++ p.extract 0 1 else st.signs) = q := ⟨_, rfl⟩
              rw [hsg2] at HLA4
              rw [hq]
              have hqs : q.size ≤ 900000 := by
                rw [← hq]
                split
                · rw [ByteArray.size_extract]; omega
                · exact hz.2
              obtain ⟨t, ht⟩ : ∃ t, readOf q = t := ⟨_, rfl⟩
              have hstep : st.step p = ⟨st.xs, st.ts ++ [t], sg2⟩ := by
                unfold PS.step
                rw [hn, ← hsg2, ← ht, ← hq]
                cases signed p <;> rfl
              have HSTEP := Aside0.mk hstep; clear hstep
              have HT := Aside0.mk ht; clear ht hq hsg2
              have hBw4 : Below w0.heap.size w0 wc := by
                have h1 := HBW0.out
                have h2 := HB0.out.size
                have h4 := HBB2.out.size
                have h5 := blk_lt HKR2.out
                exact ⟨HKP4.out.os.trans h1.os, HKP4.out.tape.trans h1.tape, HKP4.out.output.trans h1.output, Nat.le_trans h1.size HKP4.out.size, fun g hg => (HKP4.out.block g (by omega) (by omega)).trans (h1.block g hg)⟩
              have HM4 := Aside0.mk (most_below hBw4 F.most); clear hBw4
              have hwc : w2.heap.size ≤ wc.heap.size := Nat.le_trans HKP.out.size HKP4.out.size
              have HKPC := Aside0.mk (HKP.out.trans HKP4.out)
              obtain ⟨vN, vT, hL4, hN4, hT4⟩ := HLA4.out
              have HL4 := Aside0.mk hL4; clear hL4
              have HN4 := Aside0.mk hN4; clear hN4
              have HT4 := Aside0.mk hT4; clear hT4
              have hlb3 : lb < w2.heap.size := by have := blk_lt HKL2.out; omega
              have hb3 := HLN.out
              obtain ⟨i0, hi, hz0, hz1, hz2⟩ := info_parts info51
              go_wp2_with (first
                | (go_at_call 78; refine (readTuple51_any q (by omega) _ HM4.out t HT.out).mono ?_; rintro e w5 ⟨⟨c5, rfl⟩, hb⟩; have HL5 := Aside0.mk (blk_below HL4.out hb); have HN5 := Aside0.mk (pw_own_below HN4.out hb); have HT5 := Aside0.mk (pw_own_below HT4.out hb); have HB5 := Aside0.mk hb; clear hb; have c2 := (blk_cell HL5.out 2).trans rfl; have hlt5 := blk_lt HL5.out)
                | (at_builtin; refine wpList_append_own _ rfl _ _ 27 rfl w2.heap.size 51 i0 _ 6 96 Tryz.underlying27 hi hz0 hz1 hz2 rfl (by decide) _ _ _ rfl ((HT5.out.alloc _).alloc _) ⟨w5.heap.size + 1, 0, none⟩ 1 1 [.string t.f0, .string t.f1, .string t.f2, .string t.f3.f0, .string t.f3.f1, .string t.f3.f2] rfl rfl (World.news_of_block (blk_two _ _ _ _)) ?c2 ?c3 ?c4 ?c5 ?_))
              case c2 => intro u hu; simp at hu; rcases hu with rfl | rfl | rfl | rfl | rfl | rfl <;> rfl
              case c3 => unfold maxLen; omega
              case c4 => omega
              case c5 => have := HB5.out.size; simp; omega
              intro v' w6 hown' hgrow _
              have hl6 := blk_grown (blk_alloc (blk_alloc HL5.out (.cells #[.string t.f0, .string t.f1, .string t.f2, .string t.f3.f0, .string t.f3.f1, .string t.f3.f2] 51)) (.cells #[.string t.f0, .string t.f1, .string t.f2, .string t.f3.f0, .string t.f3.f1, .string t.f3.f2] 51)) hgrow (fun h => by have := (own_blk HT5.out _ h.symm).1; omega)
              have hn6 := own_else ((HN5.out.alloc (.cells #[.string t.f0, .string t.f1, .string t.f2, .string t.f3.f0, .string t.f3.f1, .string t.f3.f2] 51)).alloc (.cells #[.string t.f0, .string t.f1, .string t.f2, .string t.f3.f0, .string t.f3.f1, .string t.f3.f2] 51)) ((HT5.out.alloc (.cells #[.string t.f0, .string t.f1, .string t.f2, .string t.f3.f0, .string t.f3.f1, .string t.f3.f2] 51)).alloc (.cells #[.string t.f0, .string t.f1, .string t.f2, .string t.f3.f0, .string t.f3.f1, .string t.f3.f2] 51)) (by decide) hgrow
              have hk6 : Kp w2.heap.size lb wc w6 := (Kp.of_below HB5.out hwc).trans ⟨hgrow.os, hgrow.tape, hgrow.output, Nat.le_trans (by simp; omega) hgrow.size, fun g hg hne => (hgrow.block g (by have := HB5.out.size; simp; omega) (fun h => by have := (own_blk HT5.out _ h.symm).1; omega)).trans ((Below.heap_alloc _ _ _ (by have := HB5.out.size; simp; omega)).trans (Below.heap_alloc _ _ _ (by have := HB5.out.size; omega)))⟩
              have HN6 := Aside0.mk hn6; clear hn6
              have HT6 := Aside0.mk hown'; clear hown' hgrow
              have HK6 := Aside0.mk hk6; clear hk6
              have HL6 := Aside0.mk hl6; clear hl6
              clear c2
              have c2 := (blk_cell HL6.out 2).trans rfl
              have f2 := blk_frozen HL6.out 2
              obtain ⟨A', m', c', rfl⟩ := own_slice HT6.out
              go_wp2
              have hlen : (st.ts ++ [t]).length = st.ts.length + 1 := by simp
              have hflat : flatT (st.ts ++ [t]) = flatT st.ts ++ [.string t.f0, .string t.f1, .string t.f2, .string t.f3.f0, .string t.f3.f1, .string t.f3.f2] := by simp [flatT]
              have hsl := PS.step_len st p
              rw [HSTEP.out] at hsl
              have hrow : (w6.setCell ⟨lb, 2, none⟩ (.slice A' m' c')).ownsRow w2.heap.size 51 6 (.slice A' m' c') (st.ts ++ [t]).length (flatT (st.ts ++ [t])) := by
                rw [hlen, hflat]
                exact RowKit.ownsRow_setCell_below HT6.out (a := ⟨lb, 2, none⟩) hlb3 _
              exact ⟨⟨k + 1, ⟨st.xs, st.ts ++ [t], sg2⟩, by omega, by go_num, ⟨by rw [← HSTEP.out]; exact HNX.out⟩, ⟨by simp only at hsl ⊢; omega⟩, ⟨vN, .slice A' m' c', blk_set HL6.out 2 _, RowKit.ownsRow_setCell_below HN6.out (a := ⟨lb, 2, none⟩) hlb3 _, hrow⟩, HKPC.out.trans (HK6.out.trans ⟨rfl, rfl, rfl, by simp, fun g hg hne => Below.heap_setCell _ _ _ _ hne⟩)⟩, by simp [intOf]; omega⟩
      · obtain rfl : k = fs.length := by omega
        have hst := HST.out
        rw [List.drop_of_length_le (Nat.le_refl _)] at hst
        have hst' : partsOf s = st := by rw [HPO.out, ← hst]; rfl
        have HS := Aside0.mk hst'; clear hst hst'
        have HRR := (HKP.out.block w.heap.size (by have := blk_lt HKR2.out; omega) (by omega)).trans HKR2.out
        have HBW : Below w.heap.size w wr := ⟨HKP.out.os.trans HBB2.out.os, HKP.out.tape.trans HBB2.out.tape, HKP.out.output.trans HBB2.out.output, Nat.le_trans HBB2.out.size HKP.out.size, fun g hg => (HKP.out.block g (by have := HBB2.out.size; omega) (by omega)).trans (HBB2.out.block g hg)⟩
        obtain ⟨vN, vT, hL, hN, hT⟩ := HLA.out
        obtain ⟨a1, m1, n1, rfl⟩ := own_slice hN
        obtain ⟨a2, m2, n2, rfl⟩ := own_slice hT
        have HN := Aside0.mk hN; clear hN
        have HT := Aside0.mk hT; clear hT
        have HBW := Aside0.mk HBW
        have z0 := (blk_cell HRR 0).trans rfl; have y0 := blk_frozen HRR 0; have x0 := (blk_cell hL 0).trans rfl; have z1 := (blk_cell HRR 1).trans rfl; have y1 := blk_frozen HRR 1; have x1 := (blk_cell hL 1).trans rfl; have z2 := (blk_cell HRR 2).trans rfl; have y2 := blk_frozen HRR 2; have x2 := (blk_cell hL 2).trans rfl; have z3 := (blk_cell HRR 3).trans rfl; have y3 := blk_frozen HRR 3; have x3 := (blk_cell hL 3).trans rfl; have z4 := (blk_cell HRR 4).trans rfl; have y4 := blk_frozen HRR 4; have x4 := (blk_cell hL 4).trans rfl;
        have HRR := Aside0.mk HRR
        clear hL
        have hwb : w.heap.size < w2.heap.size := blk_lt HKR2.out
        go_wp2
        have KV := (blk_set (blk_set (blk_set (blk_set (blk_set HRR.out 0 (.string word)) 1 (.slice a1 m1 n1)) 2 (.slice a2 m2 n2)) 3 (.string st.signs)) 4 (.string ⟨#[]⟩))
        refine bodyPost_ret (results_cell_row rfl _ _ w.heap.size 29 #[.string word, .slice a1 m1 n1, .slice a2 m2 n2, .string st.signs, .string ⟨#[]⟩] (0, 0) _ rfl KV Tryz.underlying29 rfl (by kernel_rfl)) rfl ?_
        refine ⟨⟨_, rfl, ?_⟩, (((((HBW.out.setCell (Nat.le_refl _) _).setCell (Nat.le_refl _) _).setCell (Nat.le_refl _) _).setCell (Nat.le_refl _) _).setCell (Nat.le_refl _) _)⟩
        unfold LineVal textOf
        rw [HIS.out, HW.out, HS.out]
        exact ⟨_, _, rfl, own_less (RowKit.ownsRow_setCell_below (RowKit.ownsRow_setCell_below (RowKit.ownsRow_setCell_below (RowKit.ownsRow_setCell_below (RowKit.ownsRow_setCell_below HN.out (a := ⟨w.heap.size, 0, none⟩) hwb (.string word)) (a := ⟨w.heap.size, 1, none⟩) hwb (.slice a1 m1 n1)) (a := ⟨w.heap.size, 2, none⟩) hwb (.slice a2 m2 n2)) (a := ⟨w.heap.size, 3, none⟩) hwb (.string st.signs)) (a := ⟨w.heap.size, 4, none⟩) hwb (.string ⟨#[]⟩)) (by omega), own_less (RowKit.ownsRow_setCell_below (RowKit.ownsRow_setCell_below (RowKit.ownsRow_setCell_below (RowKit.ownsRow_setCell_below (RowKit.ownsRow_setCell_below HT.out (a := ⟨w.heap.size, 0, none⟩) hwb (.string word)) (a := ⟨w.heap.size, 1, none⟩) hwb (.slice a1 m1 n1)) (a := ⟨w.heap.size, 2, none⟩) hwb (.slice a2 m2 n2)) (a := ⟨w.heap.size, 3, none⟩) hwb (.string st.signs)) (a := ⟨w.heap.size, 4, none⟩) hwb (.string ⟨#[]⟩)) (by omega)⟩
end Go.Proofs.YtbdoafigggcdpaaGreatDoor.PScr
