/- The walk of expand.walk and of expand.Size. No condition of ours. -/
import Derived.Test.YtbdoafigggcdpaaGreatDoorVTC
import Derived.BigRegion
namespace Go.Proofs.YtbdoafigggcdpaaGreatDoor.PScr
open Go.RowKit Go.Proofs.YtbdoafigggcdpaaGreatDoorW.PrintWords Go.Proofs.YtbdoafigggcdpaaGreatDoorW.PrintLast Go.Proofs.YtbdoafigggcdpaaGreatDoorW.PrintMore
set_option linter.unusedVariables false
set_option linter.unusedSimpArgs false

def walkT : Bool × List (List Nat × List Nat) := (true, [([], []), ([], []), ([1], [1]), ([], []), ([3], [3]), ([2, 4, 2], [2, 4]), ([], []), ([0, 5, 6, 5], [0, 5, 6])])
def walkB : List Nat := [0, 0, 2, 0, 8, 30, 0, 127]
theorem walkTab : rtab .any (opsOf Tryz.f82 5) = walkT := by kernel_rfl
theorem walkBits : waitsOk walkT.2 walkB = true := by kernel_rfl
theorem own_kp {w w' : World} {base g m : Nat} {v : Value} {ys : List Value} (h : w.ownsRow base 3 1 v m ys) (hg : some g ≠ v.ownBlock) (hk : Kp w.heap.size g w w') : w'.ownsRow base 3 1 v m ys :=
  own_move h (fun k hk' => hk.block k (own_blk h k hk').2 (by rintro rfl; exact hg hk'.symm))
theorem below_kp {w0 w wx : World} {B g : Nat} (h : Below w0.heap.size w0 w) (k : Kp B g w wx) (hg : w0.heap.size ≤ g) (hB : w0.heap.size ≤ B) : Below w0.heap.size w0 wx :=
  ⟨k.os.trans h.os, k.tape.trans h.tape, k.output.trans h.output, Nat.le_trans h.size k.size, fun q hq => (k.block q (by omega) (by omega)).trans (h.block q hq)⟩
/-- the round's own tree lies there, and what was there stands -/
def TS (wr : World) (x0 x1 x2 : Value) (w' : World) : Prop := w'.cell? ⟨wr.heap.size, 0, none⟩ = some x0 ∧ w'.cell? ⟨wr.heap.size, 1, none⟩ = some x1 ∧ w'.cell? ⟨wr.heap.size, 2, none⟩ = some x2 ∧ Aside0 (w'.heap[wr.heap.size]? = some (.cells #[x0, x1, x2] 44 (0, 0))) ∧ Aside0 (Below wr.heap.size wr w')
theorem TS.mk' {wr w' : World} {x0 x1 x2 : Value} (h : w'.heap[wr.heap.size]? = some (.cells #[x0, x1, x2] 44 (0, 0))) (hb : Below wr.heap.size wr w') : TS wr x0 x1 x2 w' :=
  ⟨(blk_cell h 0).trans rfl, (blk_cell h 1).trans rfl, (blk_cell h 2).trans rfl, ⟨h⟩, ⟨hb⟩⟩
theorem TS.below {wr w1 w' : World} {x0 x1 x2 : Value} (h : TS wr x0 x1 x2 w1) (hb : Below w1.heap.size w1 w') : TS wr x0 x1 x2 w' :=
  TS.mk' (blk_below h.2.2.2.1.out hb) (below_step h.2.2.2.2.out hb)
theorem TS.grown {wr w1 w' : World} {x0 x1 x2 : Value} {o : Option Nat} (h : TS wr x0 x1 x2 w1) (hg : w1.grownBy w' o) (ho : ∀ k, o = some k → wr.heap.size < k) : TS wr x0 x1 x2 w' :=
  TS.mk' (blk_grown h.2.2.2.1.out hg (fun e => by have := ho _ e.symm; omega)) (h.2.2.2.2.out.grown hg h.2.2.2.2.out.size (fun k hk => by have := ho k hk; omega))
theorem TS.lt {wr w1 : World} {x0 x1 x2 : Value} (h : TS wr x0 x1 x2 w1) : wr.heap.size < w1.heap.size := blk_lt h.2.2.2.1.out

set_option maxRecDepth 100000 in
set_option maxHeartbeats 4000000 in
theorem walk_any (w0 : World) (g : Nat) (hg : w0.heap.size ≤ g) : ∀ (d : Nat) (t : S44), FewT d t → ∀ (A1 : Option Addr) (c1 : Nat) (A2 : Option Addr) (c2 : Nat) (hr2 : Kd.C k44 w0 A2 t.f2.length t.f2) (n m : Nat) (xs : List Int) (way : Value) (w : World), n + nodes t < 4611686018427387904 → m + d ≤ 900 → Below w0.heap.size w0 w → Cnt w g n → w.ownsRow 0 3 1 way m (xs.map (Value.int .i64)) → some g ≠ way.ownBlock →
    Calls Tryz.prog 82 #[.agg #[.string t.f0, .slice A1 t.f1.length c1, .slice A2 t.f2.length c2], way, .func (.func 83) #[] #[.pointer (some ⟨g, 0, none⟩)]] w fun e w' => e = .returned (.tuple #[]) ∧ Cnt w' g ((n + nodes t : Nat) : Int) ∧ Kp w.heap.size g w w'
  | 0, t, hf => hf.elim
  | d + 1, t, hf => by
    intro A1 c1 A2 c2 hr2 n m xs way w hn hm hB0 hc how hne
    have ih := walk_any w0 g hg d
    obtain ⟨i0, hi, hz0, hz1, hz2⟩ := info_parts info3
    have hu44 := Tryz.underlying44
    obtain ⟨hl1, hl2, hps⟩ := hf
    have hnt := nodes_eq t
    have hgl := blk_lt hc
    have IH := Aside0.mk ih; clear ih
    have HPS := Aside0.mk hps; clear hps
    have HR2 := Aside0.mk hr2; clear hr2
    have HB0 := Aside0.mk hB0; clear hB0
    have HOW := Aside0.mk how; clear how
    have HNE := Aside0.mk hne; clear hne
    have HC := Aside0.mk (blk_alloc hc (.cells #[.string t.f0, .slice A1 t.f1.length c1, .slice A2 t.f2.length c2] 44)); clear hc
    have HBX := box_blk w #[.string t.f0, .slice A1 t.f1.length c1, .slice A2 t.f2.length c2] 44
    have z0 := (blk_cell HBX 0).trans rfl; have z1 := (blk_cell HBX 1).trans rfl; have z2 := (blk_cell HBX 2).trans rfl
    have HK0 : Aside0 (Kp w.heap.size g w (w.alloc (.cells #[.string t.f0, .slice A1 t.f1.length c1, .slice A2 t.f2.length c2] 44))) := ⟨Kp.of_below (below_alloc (Below.refl _ _) _) (Nat.le_refl _)⟩
    have hstep := step_any g n (by omega) t.f0 (.slice A1 t.f1.length c1) (.slice A2 t.f2.length c2) way (w.alloc (.cells #[.string t.f0, .slice A1 t.f1.length c1, .slice A2 t.f2.length c2] 44)) HC.out
    have HX := Aside0.mk HBX; clear HBX
    go_enter Tryz.func82, Tryz.ntmps82
    go_upto_region 3 with (first
      | (go_at_call 83; refine hstep.mono ?_; rintro e w1 ⟨rfl, hc1, hk1⟩; have HC1 := Aside0.mk hc1; have HX1 := (hk1.block w.heap.size (by simp) (by omega)).trans HX.out; have HK1 := Aside0.mk (HK0.out.trans ⟨hk1.os, hk1.tape, hk1.output, hk1.size, fun q hq hqn => hk1.block q (by simp; omega) hqn⟩); clear hc1 hk1 z0 z1 z2; have z0 := (blk_cell HX1 0).trans rfl; have z1 := (blk_cell HX1 1).trans rfl; have z2 := (blk_cell HX1 2).trans rfl; clear HX1))
    clear z0 z1 z2 hstep
    go_loopw [15] (fun i wx => ∃ k c : Nat, k ≤ t.f2.length ∧ i = .int .i64 k ∧ c + nodesL (t.f2.drop k) = n + nodes t ∧ Aside0 (Cnt wx g (c : Int)) ∧ Aside0 (Kp w.heap.size g w wx)) (fun i _ => t.f2.length - (intOf i).toNat)
    case atStart => exact ⟨0, n + 1, by omega, rfl, by rw [List.drop_zero]; omega, HC1, HK1⟩
    case round =>
      clear HC1 HK1 HX HK0 HC
      obtain ⟨k, c, hk, rfl, hsum, HC, HK⟩ := hrel
      by_cases hlt : k < t.f2.length
      · have hsplit := nodesL_at t.f2 k hlt
        have hmem : rd_T44 t.f2 (k : Int) ∈ t.f2 := by
          have e : rd_T44 t.f2 (k : Int) = t.f2[k] := by unfold rd_T44; simp [hlt]
          rw [e]; exact List.getElem_mem hlt
        have hfew := HPS.out _ hmem
        obtain ⟨ad, B1, d1, B2, d2, rfl, g0, g1, g2, lb1, r1, lb2, r2⟩ := at_T44 HR2.out (k : Int) (by omega) (by omega)
        have HBw := Aside0.mk (below_kp HB0.out HK.out hg HB0.out.size)
        replace g0 := below_cell0 HBw.out g0
        replace g1 := below_cell0 HBw.out g1
        replace g2 := below_cell0 HBw.out g2
        have e5 : ((k : Int)).toNat = k := by simp
        rw [e5] at g0 g1 g2
        clear e5 hmem
        obtain ⟨p, hp⟩ : ∃ p, rd_T44 t.f2 (k : Int) = p := ⟨_, rfl⟩
        rw [hp] at g0 g1 g2 r1 r2 hfew hsplit
        clear hp lb1 lb2 r1
        have HRP := Aside0.mk r2; clear r2
        have HFEW := Aside0.mk hfew; clear hfew
        have q1 : (k : Int) < (t.f2.length : Int) := by omega
        have hst : TS wr (.string p.f0) (.slice B1 p.f1.length d1) (.slice B2 p.f2.length d2) ((wr.alloc (.cells #[.string p.f0, .slice B1 p.f1.length d1, .slice B2 p.f2.length d2] 44)).drew) :=
          TS.mk' (box_blk wr _ 44) (below_drew1 (below_alloc (Below.refl _ _) _))
        have HST := Aside0.mk hst; clear hst
        have hgw : g < wr.heap.size := by have := HK.out.size; omega
        have hww : w.heap.size ≤ wr.heap.size := HK.out.size
        have hway : ∀ w', TS wr (.string p.f0) (.slice B1 p.f1.length d1) (.slice B2 p.f2.length d2) w' → w'.ownsRow 0 3 1 way m (xs.map (Value.int .i64)) := fun w' h => pw_own_below (own_kp HOW.out HNE.out HK.out) h.2.2.2.2.out
        have HWAY := Aside0.mk hway; clear hway
        have hcl : ∀ w', TS wr (.string p.f0) (.slice B1 p.f1.length d1) (.slice B2 p.f2.length d2) w' → Calls Tryz.prog 108 #[way] w' fun e w'' => ∃ v', e = .returned v' ∧ w''.ownsRow w'.heap.size 3 1 v' m (xs.map (Value.int .i64)) ∧ Below w'.heap.size w' w'' := fun w' h => clone_any 0 way m xs (by omega) w' (HWAY.out w' h)
        have HCL := Aside0.mk hcl; clear hcl
        have hrec : ∀ (w4 : World) (v4 : Value), TS wr (.string p.f0) (.slice B1 p.f1.length d1) (.slice B2 p.f2.length d2) w4 → w4.ownsRow (wr.heap.size + 1) 3 1 v4 (m + 1) ((xs ++ [(k : Int)]).map (Value.int .i64)) →
            Calls Tryz.prog 82 #[.agg #[.string p.f0, .slice B1 p.f1.length d1, .slice B2 p.f2.length d2], v4, .func (.func 83) #[] #[.pointer (some ⟨g, 0, none⟩)]] w4 fun e w' => e = .returned (.tuple #[]) ∧ Cnt w' g ((c + nodes p : Nat) : Int) ∧ Kp w.heap.size g w w' := by
          intro w4 v4 hts hown
          have hq : ∀ q, v4.ownBlock = some q → wr.heap.size < q := fun q hq => (own_blk hown q hq).1
          have hown := own_weaken hown (Nat.zero_le _)
          refine (IH.out p HFEW.out B1 d1 B2 d2 HRP.out c (m + 1) (xs ++ [(k : Int)]) v4 w4 (by omega) (by omega) (below_weaken HBw.out (by have := HB0.out.size; omega) hts.2.2.2.2.out) ((hts.2.2.2.2.out.block g hgw).trans HC.out) hown (fun e => by have := hq g e.symm; omega)).mono ?_
          rintro e w' ⟨he, hc', hk'⟩
          refine ⟨he, hc', HK.out.trans ⟨hk'.os.trans hts.2.2.2.2.out.os, hk'.tape.trans hts.2.2.2.2.out.tape, hk'.output.trans hts.2.2.2.2.out.output, Nat.le_trans hts.2.2.2.2.out.size hk'.size, fun q hq' hqn => (hk'.block q (by have := hts.2.2.2.2.out.size; omega) hqn).trans (hts.2.2.2.2.out.block q (by omega))⟩⟩
        have HREC := Aside0.mk hrec; clear hrec
        clear HRP HFEW IH
        go_wp2_with fail
        refine start_ (n := 8) (S := TS wr (.string p.f0) (.slice B1 p.f1.length d1) (.slice B2 p.f2.length d2)) (ds := [7]) #[false, false, false, false, false, false, false, false] (by kernel_rfl) rfl rfl HST.out (fun hHeld => ?_); refine with_tabW walkTab walkBits (fun HT_ HW_ => ?_)
        generalize (wr.alloc (.cells #[.string p.f0, .slice B1 p.f1.length d1, .slice B2 p.f2.length d2] 44)).drew = W at hHeld ⊢
        refine pure_ (i := 1) (N := some 21) (v := ?_) (a' := ?_) #[false, true, false, false, false, false, false, false] rfl rfl (any_of HT_.out (by kernel_rfl)) (fun _ _ _ h => h) (Or.inl ⟨by rfl, ?_⟩) ?_ ?_
        rotate_left
        · intro w'
          go_simp
          with_reducible rfl
        rotate_left
        · simp only [Act.put, List.setIfInBounds_toArray, List.set_cons_zero, List.set_cons_succ, i64_w, i32_w]
          rfl
        refine pure_ (i := 3) (N := some 23) (v := ?_) (a' := ?_) #[false, true, false, true, false, false, false, false] rfl rfl (any_of HT_.out (by kernel_rfl)) (fun _ _ _ h => h) (Or.inl ⟨by rfl, ?_⟩) ?_ ?_
        rotate_left
        · intro w'
          go_simp
          with_reducible rfl
        rotate_left
        · simp only [Act.put, List.setIfInBounds_toArray, List.set_cons_zero, List.set_cons_succ, i64_w, i32_w]
          rfl
        refine pure_ (i := 6) (N := some 26) (v := ?_) (a' := ?_) #[false, true, false, true, false, false, true, false] rfl rfl (any_of HT_.out (by kernel_rfl)) (fun _ _ _ h => h) (Or.inl ⟨by rfl, ?_⟩) ?_ ?_
        rotate_left
        · intro w'
          go_simp
          with_reducible rfl
        rotate_left
        · simp only [Act.put, List.setIfInBounds_toArray, List.set_cons_zero, List.set_cons_succ, i64_w, i32_w]
          rfl
        refine take_ (i := 0) (N := some 20) (v := ?_) (a' := ?_) #[true, true, false, true, false, false, true, false] rfl rfl (take_ofW HT_.out HW_.out (by kernel_rfl)) (fun _ _ _ h => h) (Or.inl ⟨by rfl, ?_⟩) hHeld ?_ ?_
        rotate_left
        · rintro w' ⟨s0, s1, s2, s3, s4⟩
          go_simp
          with_reducible rfl
        rotate_left
        · simp only [Act.put, List.setIfInBounds_toArray, List.set_cons_zero, List.set_cons_succ, i64_w, i32_w]
          rfl
        refine two_ (i := 2) (j := 4) (Ni := some 22) (Nj := some 24) #[true, true, true, true, false, false, true, false] #[true, true, false, true, true, false, true, false] rfl rfl rfl rfl (two_of HT_.out (by kernel_rfl)) (by decide) (by decide) (fun K hK => ?_) (fun K hK => ?_)
        · refine goes_ Tryz.func108 (by kernel_rfl) rfl #[way] (by rfl) rfl rfl (by (try simp only [List.map_toArray, List.map_cons, List.map_nil]); first | done | rfl) ?_
          with_reducible refine (HCL.out _ hHeld).mono ?_
          rintro e' w3 ⟨v3, rfl, hown3, hb3⟩
          refine ⟨_, rfl, ?_⟩
          have H3 := Aside0.mk hHeld
          refine hK.out _ _ (hHeld.below hb3) (fun hHeld => ?_)
          clear hK K
          refine norm_ (a' := ?_) ?_ ?_
          rotate_left
          · show Act.put _ (some 22) _ = _
            simp only [Act.put, List.setIfInBounds_toArray, List.set_cons_zero, List.set_cons_succ, i64_w, i32_w]
            rfl
          refine one_ (i := 4) (N := some 24) #[true, true, true, true, true, false, true, false] rfl rfl (one_of HT_.out (by kernel_rfl)) (by decide) (fun K hK => ?_)
          refine value_ (v := .slice (some ⟨w3.heap.size, 0, none⟩) 1 1) (w1 := w3.alloc (.cells #[.int .i64 (k : Int)] 3)) (by rfl) rfl (by first | (go_simp; done) | (go_simp; rfl)) ?_
          have H2 := Aside0.mk hHeld
          refine hK.out _ _ (hHeld.below (below_alloc (Below.refl _ _) _)) (fun hHeld => ?_)
          clear hK K
          refine norm_ (a' := ?_) ?_ ?_
          rotate_left
          · show Act.put _ (some 24) _ = _
            simp only [Act.put, List.setIfInBounds_toArray, List.set_cons_zero, List.set_cons_succ, i64_w, i32_w]
            rfl
          have hlt3 := H3.out.lt
          have hs3 := hb3.size
          have HOW4 := Aside0.mk (own_alloc (own_weaken hown3 (show wr.heap.size + 1 ≤ _ from hlt3)) (.cells #[.int .i64 (k : Int)] 3))
          have HSZ4 := Aside0.mk (show wr.heap.size + 1 ≤ (w3.alloc (.cells #[.int .i64 (k : Int)] 3)).heap.size by simp; omega)
          have HNW := Aside0.mk (news1 (box_blk w3 #[.int .i64 (k : Int)] 3))
          have HQ := Aside0.mk (show ∀ q, v3.ownBlock = some q → wr.heap.size < q from fun q hq => by have := (own_blk hown3 q hq).1; omega)
          refine one_ (i := 5) (N := some 25) #[true, true, true, true, true, true, true, false] rfl rfl (one_of HT_.out (by kernel_rfl)) (by decide) (fun K hK => ?_)
          refine (show Oper.wp Tryz.prog _ _ _ K _ from wp_append_own _ (.tmp 22) (.tmp 24) 26 rfl (wr.heap.size + 1) 3 i0 (.int .i64 0) 1 8 Tryz.underlying26 hi hz0 hz1 hz2 rfl (by decide) v3 m (xs.map (Value.int .i64)) (by rfl) HOW4.out ⟨w3.heap.size, 0, none⟩ 1 1 [.int .i64 (k : Int)] (by rfl) rfl HNW.out (by intro u hu; simp at hu; subst hu; rfl) (by unfold maxLen; omega) (by omega) HSZ4.out ?_)
          intro v5 w5 hown5 hgrow5 _
          have hts5 := hHeld.grown hgrow5 HQ.out
          refine hK.out _ _ hts5 (fun hHeld => ?_)
          clear hK K
          refine norm_ (a' := ?_) ?_ ?_
          rotate_left
          · show Act.put _ (some 25) _ = _
            simp only [Act.put, List.setIfInBounds_toArray, List.set_cons_zero, List.set_cons_succ, i64_w, i32_w]
            rfl
          refine last_ (i := 7) (N := some 27) #[true, true, true, true, true, true, true, true] rfl rfl (one_of HT_.out (by kernel_rfl)) (by decide) (fun K hK => ?_)
          refine goes_ Tryz.func82 (by kernel_rfl) rfl #[.agg #[.string p.f0, .slice B1 p.f1.length d1, .slice B2 p.f2.length d2], v5, .func (.func 83) #[] #[.pointer (some ⟨g, 0, none⟩)]] (by rfl) rfl rfl (by (try simp only [List.map_toArray, List.map_cons, List.map_nil]); first | done | rfl) ?_
          refine (HREC.out w5 v5 hHeld (by simpa using hown5)).mono ?_
          rintro e' w6 ⟨rfl, hc6, hk6⟩
          refine ⟨_, rfl, ?_⟩
          refine hK.out _ _ ?_
          clear hK K
          refine done_ (done_of HT_.out (by kernel_rfl)) ?_
          have HC6 := Aside0.mk hc6; have HK6 := Aside0.mk hk6
          clear hc6 hk6 hown5 hgrow5 hts5 hHeld
          have hsum6 : c + nodes p + nodesL (t.f2.drop (k + 1)) = n + nodes t := by omega
          go_wp2
          exact ⟨⟨k + 1, c + nodes p, by omega, by go_num, hsum6, HC6, HK6⟩, by simp [intOf]; omega⟩
        · refine value_ (v := .slice (some ⟨W.heap.size, 0, none⟩) 1 1) (w1 := W.alloc (.cells #[.int .i64 (k : Int)] 3)) (by rfl) rfl (by first | (go_simp; done) | (go_simp; rfl)) ?_
          have H2 := Aside0.mk hHeld
          refine hK.out _ _ (hHeld.below (below_alloc (Below.refl _ _) _)) (fun hHeld => ?_)
          clear hK K
          refine norm_ (a' := ?_) ?_ ?_
          rotate_left
          · show Act.put _ (some 24) _ = _
            simp only [Act.put, List.setIfInBounds_toArray, List.set_cons_zero, List.set_cons_succ, i64_w, i32_w]
            rfl
          refine one_ (i := 2) (N := some 22) #[true, true, true, true, true, false, true, false] rfl rfl (one_of HT_.out (by kernel_rfl)) (by decide) (fun K hK => ?_)
          refine goes_ Tryz.func108 (by kernel_rfl) rfl #[way] (by rfl) rfl rfl (by (try simp only [List.map_toArray, List.map_cons, List.map_nil]); first | done | rfl) ?_
          with_reducible refine (HCL.out _ hHeld).mono ?_
          rintro e' w3 ⟨v3, rfl, hown3, hb3⟩
          refine ⟨_, rfl, ?_⟩
          have H3 := Aside0.mk hHeld
          refine hK.out _ _ (hHeld.below hb3) (fun hHeld => ?_)
          clear hK K
          refine norm_ (a' := ?_) ?_ ?_
          rotate_left
          · show Act.put _ (some 22) _ = _
            simp only [Act.put, List.setIfInBounds_toArray, List.set_cons_zero, List.set_cons_succ, i64_w, i32_w]
            rfl
          have hlt3 := H3.out.lt
          have hs3 := hb3.size
          have HOW4 := Aside0.mk (own_weaken hown3 (show wr.heap.size + 1 ≤ _ from hlt3))
          have HSZ4 := Aside0.mk (show wr.heap.size + 1 ≤ w3.heap.size by omega)
          have HNW := Aside0.mk (news1 (blk_below (box_blk W #[.int .i64 (k : Int)] 3) hb3))
          have HQ := Aside0.mk (show ∀ q, v3.ownBlock = some q → wr.heap.size < q from fun q hq => by have := (own_blk hown3 q hq).1; omega)
          refine one_ (i := 5) (N := some 25) #[true, true, true, true, true, true, true, false] rfl rfl (one_of HT_.out (by kernel_rfl)) (by decide) (fun K hK => ?_)
          refine (show Oper.wp Tryz.prog _ _ _ K _ from wp_append_own _ (.tmp 22) (.tmp 24) 26 rfl (wr.heap.size + 1) 3 i0 (.int .i64 0) 1 8 Tryz.underlying26 hi hz0 hz1 hz2 rfl (by decide) v3 m (xs.map (Value.int .i64)) (by rfl) HOW4.out ⟨W.heap.size, 0, none⟩ 1 1 [.int .i64 (k : Int)] (by rfl) rfl HNW.out (by intro u hu; simp at hu; subst hu; rfl) (by unfold maxLen; omega) (by omega) HSZ4.out ?_)
          intro v5 w5 hown5 hgrow5 _
          have hts5 := hHeld.grown hgrow5 HQ.out
          refine hK.out _ _ hts5 (fun hHeld => ?_)
          clear hK K
          refine norm_ (a' := ?_) ?_ ?_
          rotate_left
          · show Act.put _ (some 25) _ = _
            simp only [Act.put, List.setIfInBounds_toArray, List.set_cons_zero, List.set_cons_succ, i64_w, i32_w]
            rfl
          refine last_ (i := 7) (N := some 27) #[true, true, true, true, true, true, true, true] rfl rfl (one_of HT_.out (by kernel_rfl)) (by decide) (fun K hK => ?_)
          refine goes_ Tryz.func82 (by kernel_rfl) rfl #[.agg #[.string p.f0, .slice B1 p.f1.length d1, .slice B2 p.f2.length d2], v5, .func (.func 83) #[] #[.pointer (some ⟨g, 0, none⟩)]] (by rfl) rfl rfl (by (try simp only [List.map_toArray, List.map_cons, List.map_nil]); first | done | rfl) ?_
          refine (HREC.out w5 v5 hHeld (by simpa using hown5)).mono ?_
          rintro e' w6 ⟨rfl, hc6, hk6⟩
          refine ⟨_, rfl, ?_⟩
          refine hK.out _ _ ?_
          clear hK K
          refine done_ (done_of HT_.out (by kernel_rfl)) ?_
          have HC6 := Aside0.mk hc6; have HK6 := Aside0.mk hk6
          clear hc6 hk6 hown5 hgrow5 hts5 hHeld
          have hsum6 : c + nodes p + nodesL (t.f2.drop (k + 1)) = n + nodes t := by omega
          go_wp2
          exact ⟨⟨k + 1, c + nodes p, by omega, by go_num, hsum6, HC6, HK6⟩, by simp [intOf]; omega⟩
      · obtain rfl : k = t.f2.length := by omega
        have hn0 : nodesL (t.f2.drop t.f2.length) = 0 := by rw [List.drop_length, nodesL]
        have hcn : c = n + nodes t := by omega
        subst hcn
        go_wp2
        go_end0
        exact ⟨rfl, HC.out, HK.out⟩
set_option maxRecDepth 100000 in
set_option maxHeartbeats 1000000 in
theorem size_any (d : Nat) (hd : d ≤ 100) (t : S44) (hf : FewT d t) (hn : nodes t < 4611686018427387904) (A1 : Option Addr) (c1 : Nat) (A2 : Option Addr) (c2 : Nat) (w : World) (hr2 : Kd.C k44 w A2 t.f2.length t.f2) :
    Calls Tryz.prog 45 #[.agg #[.string t.f0, .slice A1 t.f1.length c1, .slice A2 t.f2.length c2]] w fun e w' => e = .returned (.int .i64 (nodes t : Int)) ∧ Below w.heap.size w w' := by
  have hu44 := Tryz.underlying44
  have hB := below_alloc (Below.refl w.heap.size w) (.cells #[.string t.f0, .slice A1 t.f1.length c1, .slice A2 t.f2.length c2] 44)
  have hBX := blk_alloc (box_blk w #[.string t.f0, .slice A1 t.f1.length c1, .slice A2 t.f2.length c2] 44) (.cells #[.int .i64 0] 3)
  have hC : Cnt ((w.alloc (.cells #[.string t.f0, .slice A1 t.f1.length c1, .slice A2 t.f2.length c2] 44)).alloc (.cells #[.int .i64 0] 3)) (w.heap.size + 1) ((0 : Nat) : Int) := by
    have := box_blk (w.alloc (.cells #[.string t.f0, .slice A1 t.f1.length c1, .slice A2 t.f2.length c2] 44)) #[.int .i64 0] 3
    rwa [size_alloc1] at this
  have hwk := walk_any (w.alloc (.cells #[.string t.f0, .slice A1 t.f1.length c1, .slice A2 t.f2.length c2] 44)) (w.heap.size + 1) (by simp) d t hf A1 c1 A2 c2 (Kd.C_below hr2 (below_alloc (Below.refl _ _) _)) 0 0 [] (.slice none 0 0) ((w.alloc (.cells #[.string t.f0, .slice A1 t.f1.length c1, .slice A2 t.f2.length c2] 44)).alloc (.cells #[.int .i64 0] 3)) (by omega) (by omega) (below_alloc (Below.refl _ _) _) hC ⟨rfl, .inl ⟨rfl, rfl⟩⟩ (by simp [Value.ownBlock])
  have z0 := (blk_cell hBX 0).trans rfl; have z1 := (blk_cell hBX 1).trans rfl; have z2 := (blk_cell hBX 2).trans rfl
  have HB := Aside0.mk hB; clear hB hBX hC
  have HWK := Aside0.mk hwk; clear hwk
  go_enter Tryz.func45, Tryz.ntmps45
  go_wp2_with fail
  refine HWK.out.mono ?_
  rintro e w' ⟨rfl, hc, hk⟩
  have hc' : w'.heap[w.heap.size + 1]? = some (.cells #[.int .i64 (nodes t : Int)] 3 (0, 0)) := by
    have h2 : w'.heap[w.heap.size + 1]? = some (.cells #[.int .i64 ((0 + nodes t : Nat) : Int)] 3 (0, 0)) := hc
    rwa [Nat.zero_add] at h2
  have c0 := (blk_cell hc' 0).trans rfl
  have HK := Aside0.mk hk; clear hk hc hc' z0 z1 z2
  go_wp2
  go_ret
  refine ⟨rfl, ⟨HK.out.os, HK.out.tape, HK.out.output, Nat.le_trans (by simp; omega) HK.out.size, fun q hq => (HK.out.block q (by simp; omega) (by omega)).trans ((Below.heap_alloc _ _ _ (by simp; omega)).trans (Below.heap_alloc _ _ _ hq))⟩⟩
end Go.Proofs.YtbdoafigggcdpaaGreatDoor.PScr
