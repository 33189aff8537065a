/- The walk of the law ScriptTells: it is true. No condition of ours. -/
import Derived.Test.YtbdoafigggcdpaaGreatDoorVTG
import Derived.Test.YtbdoafigggcdpaaGreatDoorVMH
import Derived.Deep.RegionHeld3
namespace Go.Proofs.YtbdoafigggcdpaaGreatDoor.PScr
open Go.RowKit Go.Proofs.YtbdoafigggcdpaaGreatDoorW.PrintWords Go.Proofs.YtbdoafigggcdpaaGreatDoorW.PrintLast Go.Proofs.YtbdoafigggcdpaaGreatDoorW.PrintMore
set_option linter.unusedVariables false
set_option linter.unusedSimpArgs false

theorem tell_keep {w w1 w' : World} {box : Array Value} {x0 x1 x2 x3 x4 x5 x6 x7 x8 x9 x10 x11 x12 : Value} (hb : Below w1.heap.size w1 w') (h : w1.cell? ⟨w.heap.size, 0, none⟩ = some (x0) ∧ w1.cell? ⟨w.heap.size, 1, none⟩ = some (x1) ∧ w1.cell? ⟨w.heap.size, 2, none⟩ = some (x2) ∧ w1.cell? ⟨w.heap.size, 3, none⟩ = some (x3) ∧ w1.cell? ⟨w.heap.size, 4, none⟩ = some (x4) ∧ w1.cell? ⟨w.heap.size, 5, none⟩ = some (x5) ∧ w1.cell? ⟨w.heap.size, 6, none⟩ = some (x6) ∧ w1.cell? ⟨w.heap.size, 7, none⟩ = some (x7) ∧ w1.cell? ⟨w.heap.size, 8, none⟩ = some (x8) ∧ w1.cell? ⟨w.heap.size, 9, none⟩ = some (x9) ∧ w1.cell? ⟨w.heap.size, 10, none⟩ = some (x10) ∧ w1.cell? ⟨w.heap.size, 11, none⟩ = some (x11) ∧ w1.cell? ⟨w.heap.size, 12, none⟩ = some (x12) ∧ Aside0 (RefSt w w1 box)) : w'.cell? ⟨w.heap.size, 0, none⟩ = some (x0) ∧ w'.cell? ⟨w.heap.size, 1, none⟩ = some (x1) ∧ w'.cell? ⟨w.heap.size, 2, none⟩ = some (x2) ∧ w'.cell? ⟨w.heap.size, 3, none⟩ = some (x3) ∧ w'.cell? ⟨w.heap.size, 4, none⟩ = some (x4) ∧ w'.cell? ⟨w.heap.size, 5, none⟩ = some (x5) ∧ w'.cell? ⟨w.heap.size, 6, none⟩ = some (x6) ∧ w'.cell? ⟨w.heap.size, 7, none⟩ = some (x7) ∧ w'.cell? ⟨w.heap.size, 8, none⟩ = some (x8) ∧ w'.cell? ⟨w.heap.size, 9, none⟩ = some (x9) ∧ w'.cell? ⟨w.heap.size, 10, none⟩ = some (x10) ∧ w'.cell? ⟨w.heap.size, 11, none⟩ = some (x11) ∧ w'.cell? ⟨w.heap.size, 12, none⟩ = some (x12) ∧ Aside0 (RefSt w w' box) :=
  ⟨below_cell0 hb h.1, below_cell0 hb h.2.1, below_cell0 hb h.2.2.1, below_cell0 hb h.2.2.2.1, below_cell0 hb h.2.2.2.2.1, below_cell0 hb h.2.2.2.2.2.1, below_cell0 hb h.2.2.2.2.2.2.1, below_cell0 hb h.2.2.2.2.2.2.2.1, below_cell0 hb h.2.2.2.2.2.2.2.2.1, below_cell0 hb h.2.2.2.2.2.2.2.2.2.1, below_cell0 hb h.2.2.2.2.2.2.2.2.2.2.1, below_cell0 hb h.2.2.2.2.2.2.2.2.2.2.2.1, below_cell0 hb h.2.2.2.2.2.2.2.2.2.2.2.2.1, ⟨h.2.2.2.2.2.2.2.2.2.2.2.2.2.out.step hb⟩⟩

theorem tell_below {w w1 : World} {box : Array Value} {A B C D E F0 G H0 I J K L M : Prop} (h : A ∧ B ∧ C ∧ D ∧ E ∧ F0 ∧ G ∧ H0 ∧ I ∧ J ∧ K ∧ L ∧ M ∧ Aside0 (RefSt w w1 box)) : Below w.heap.size w w1 := h.2.2.2.2.2.2.2.2.2.2.2.2.2.out.below
set_option maxRecDepth 100000 in
set_option maxHeartbeats 8000000 in
theorem tells_any (w0 : World) (F : Facts w0) (err line : Int) (tok : ByteArray) (has cut : Bool) (At : Option Addr) (ct : Nat) (ts : List S51) (Au : Option Addr) (cu : Nat) (us : List S49) (Ai : Option Addr) (ci : Nat) (ids : List ByteArray) (Ae : Option Addr) (ce : Nat) (es : List S55) (t : S44) (Ax : Option Addr) (cx : Nat) (Ap : Option Addr) (cp : Nat) (Ag : Option Addr) (cg : Nat) (pages : List Int)
    (herr : err < 9223372036854775808) (hline : line < 9223372036854775808) (htok : tok.size ≤ 1500000) (ht : ∀ x ∈ ts, x.short) (hu : ∀ x ∈ us, x.short) (hi : ∀ x ∈ ids, x.size ≤ 1500000) (he : ∀ x ∈ es, (x.f1.f0.short ∧ x.f0 < 9223372036854775808)) (lx : t.f1.length ≤ cx) (lp : t.f2.length ≤ cp) (hg : ∀ x ∈ pages, x < 9223372036854775808)
    (w : World) (hB0 : Below w0.heap.size w0 w) (hE : EntsIn w) (rt : Kd.C k51 w At ts.length ts) (ru : Kd.C k49 w Au us.length us) (ri : Kd.string.C w Ai ids.length ids) (re : Kd.C k55 w Ae es.length es) (rx : Kd.C k49 w Ax t.f1.length t.f1) (rp : Kd.C k44 w Ap t.f2.length t.f2) (rg : (Kd.int .i64).C w Ag pages.length pages) :
    Calls Tryz.prog 5 #[.agg #[.int .i64 err, .int .i64 line, .string tok, .bool has, .bool cut, .slice At ts.length ct, .slice Au us.length cu, .slice Ai ids.length ci, .slice Ae es.length ce, .string t.f0, .slice Ax t.f1.length cx, .slice Ap t.f2.length cp, .slice Ag pages.length cg]] w fun e w' => e = .returned (.bool true) ∧ Below w.heap.size w w' := by
  have hu46 := Tryz.underlying46
  have hu44 := Tryz.underlying44
  have hu55 := Tryz.underlying55
  obtain ⟨kf, rf, hf, hft⟩ := refFew_f 8 (by omega) t
  have next : ∀ {w1 : World}, Below w.heap.size w w1 → Below w0.heap.size w0 w1 := fun h => below_weaken hB0 hB0.size h
  have haw : ∀ w1, Below w.heap.size w w1 → Calls Tryz.prog 8 #[] w1 fun e w' => e = .returned (.bool true) ∧ Below w1.heap.size w1 w' := fun w1 hb => awake_any w0 F w1 (next hb) (hE.below hb)
  have HAW := Aside0.mk haw; clear haw
  have HN := Aside0.mk @next; clear next
  have HF := Aside0.mk hf; clear hf
  have HFT := Aside0.mk hft; clear hft
  have HRT := Aside0.mk rt; have HRU := Aside0.mk ru; have HRI := Aside0.mk ri; have HRE := Aside0.mk re; have HRG := Aside0.mk rg; have HRX := Aside0.mk rx; have HRP := Aside0.mk rp
  have HT := Aside0.mk ht; have HU := Aside0.mk hu; have HI := Aside0.mk hi; have HEE := Aside0.mk he; have HG := Aside0.mk hg; have HTOK := Aside0.mk htok; have HLX := Aside0.mk lx; have HLP := Aside0.mk lp
  clear rt ru ri re rg rx rp ht hu hi he hg htok lx lp hB0 hE
  have hkx := box_blk w #[.int .i64 err, .int .i64 line, .string tok, .bool has, .bool cut, .slice At ts.length ct, .slice Au us.length cu, .slice Ai ids.length ci, .slice Ae es.length ce, .string t.f0, .slice Ax t.f1.length cx, .slice Ap t.f2.length cp, .slice Ag pages.length cg] 46
  have HS : Aside0 (RefSt w (w.alloc (.cells #[.int .i64 err, .int .i64 line, .string tok, .bool has, .bool cut, .slice At ts.length ct, .slice Au us.length cu, .slice Ai ids.length ci, .slice Ae es.length ce, .string t.f0, .slice Ax t.f1.length cx, .slice Ap t.f2.length cp, .slice Ag pages.length cg] 46)) #[.int .i64 err, .int .i64 line, .string tok, .bool has, .bool cut, .slice At ts.length ct, .slice Au us.length cu, .slice Ai ids.length ci, .slice Ae es.length ce, .string t.f0, .slice Ax t.f1.length cx, .slice Ap t.f2.length cp, .slice Ag pages.length cg]) := ⟨⟨hkx, below_alloc (Below.refl _ _) _⟩⟩
  clear hkx
  go_enter Tryz.func5, Tryz.ntmps5
  go_wp2_with fail
  refine (HAW.out _ HS.out.below).mono ?_
  rintro e w2 ⟨rfl, hb⟩
  have HS2 := Aside0.mk (HS.out.step hb); clear hb HS
  have z9 := (blk_cell HS2.out.bx 9).trans rfl; have z10 := (blk_cell HS2.out.bx 10).trans rfl; have z11 := (blk_cell HS2.out.bx 11).trans rfl
  go_wp2_with fail
  refine (lunetteref15_Few.calls kf t.f0 Ax cx t.f1 Ap cp t.f2 8 rf w2 (Kd.C_below HRX.out HS2.out.below) HLX.out (Kd.C_below HRP.out HS2.out.below) HLP.out HF.out).mono ?_
  rintro e w3 ⟨rfl, hb⟩
  have HS3 := Aside0.mk (HS2.out.step hb); clear hb HS2 z9 z10 z11
  cases rf with
  | false =>
    go_wp2_with (first | (go_at_call 8; refine (HAW.out _ HS3.out.below).mono ?_; rintro e w4 ⟨rfl, hb⟩; have HS4 := Aside0.mk (HS3.out.step hb); clear hb))
    go_ret
    exact ⟨rfl, HS4.out.below⟩
  | true =>
    have hfew : FewT 8 t := HFT.out rfl
    clear HFT HF
    have z5 := (blk_cell HS3.out.bx 5).trans rfl; have z6 := (blk_cell HS3.out.bx 6).trans rfl; have z7 := (blk_cell HS3.out.bx 7).trans rfl; have z8 := (blk_cell HS3.out.bx 8).trans rfl; have z12 := (blk_cell HS3.out.bx 12).trans rfl; have z1 := (blk_cell HS3.out.bx 1).trans rfl; have z0 := (blk_cell HS3.out.bx 0).trans rfl
    by_cases c0 : (40 : Int) < (ts.length : Int)
    · have d0 : decide ((40 : Int) < (ts.length : Int)) = true := decide_eq_true c0
      go_wp2_with (first | (go_at_call 8; refine (HAW.out _ HS3.out.below).mono ?_; rintro e w4 ⟨rfl, hb⟩; have HS4 := Aside0.mk (HS3.out.step hb); clear hb))
      go_ret
      exact ⟨rfl, HS4.out.below⟩
    have d0 : decide ((40 : Int) < (ts.length : Int)) = false := decide_eq_false c0
    by_cases c1 : (40 : Int) < (us.length : Int)
    · have d1 : decide ((40 : Int) < (us.length : Int)) = true := decide_eq_true c1
      go_wp2_with (first | (go_at_call 8; refine (HAW.out _ HS3.out.below).mono ?_; rintro e w4 ⟨rfl, hb⟩; have HS4 := Aside0.mk (HS3.out.step hb); clear hb))
      go_ret
      exact ⟨rfl, HS4.out.below⟩
    have d1 : decide ((40 : Int) < (us.length : Int)) = false := decide_eq_false c1
    by_cases c2 : (40 : Int) < (ids.length : Int)
    · have d2 : decide ((40 : Int) < (ids.length : Int)) = true := decide_eq_true c2
      go_wp2_with (first | (go_at_call 8; refine (HAW.out _ HS3.out.below).mono ?_; rintro e w4 ⟨rfl, hb⟩; have HS4 := Aside0.mk (HS3.out.step hb); clear hb))
      go_ret
      exact ⟨rfl, HS4.out.below⟩
    have d2 : decide ((40 : Int) < (ids.length : Int)) = false := decide_eq_false c2
    by_cases c3 : (40 : Int) < (es.length : Int)
    · have d3 : decide ((40 : Int) < (es.length : Int)) = true := decide_eq_true c3
      go_wp2_with (first | (go_at_call 8; refine (HAW.out _ HS3.out.below).mono ?_; rintro e w4 ⟨rfl, hb⟩; have HS4 := Aside0.mk (HS3.out.step hb); clear hb))
      go_ret
      exact ⟨rfl, HS4.out.below⟩
    have d3 : decide ((40 : Int) < (es.length : Int)) = false := decide_eq_false c3
    by_cases c4 : (40 : Int) < (pages.length : Int)
    · have d4 : decide ((40 : Int) < (pages.length : Int)) = true := decide_eq_true c4
      go_wp2_with (first | (go_at_call 8; refine (HAW.out _ HS3.out.below).mono ?_; rintro e w4 ⟨rfl, hb⟩; have HS4 := Aside0.mk (HS3.out.step hb); clear hb))
      go_ret
      exact ⟨rfl, HS4.out.below⟩
    have d4 : decide ((40 : Int) < (pages.length : Int)) = false := decide_eq_false c4
    by_cases c5 : line < -1000000
    · have d5 : decide (line < -1000000) = true := decide_eq_true c5
      go_wp2_with (first | (go_at_call 8; refine (HAW.out _ HS3.out.below).mono ?_; rintro e w4 ⟨rfl, hb⟩; have HS4 := Aside0.mk (HS3.out.step hb); clear hb))
      go_ret
      exact ⟨rfl, HS4.out.below⟩
    have d5 : decide (line < -1000000) = false := decide_eq_false c5
    by_cases c6 : err < -1000000
    · have d6 : decide (err < -1000000) = true := decide_eq_true c6
      go_wp2_with (first | (go_at_call 8; refine (HAW.out _ HS3.out.below).mono ?_; rintro e w4 ⟨rfl, hb⟩; have HS4 := Aside0.mk (HS3.out.step hb); clear hb))
      go_ret
      exact ⟨rfl, HS4.out.below⟩
    have d6 : decide (err < -1000000) = false := decide_eq_false c6
    go_upto_region 4 with fail
    clear z5 z6 z7 z8 z12 z1 z0
    go_loopw [3] (fun i wx => ∃ k : Nat, k ≤ pages.length ∧ i = .int .i64 k ∧ Aside0 (∀ x ∈ pages.take k, -1000000 ≤ x) ∧ Aside0 (RefSt w wx #[.int .i64 err, .int .i64 line, .string tok, .bool has, .bool cut, .slice At ts.length ct, .slice Au us.length cu, .slice Ai ids.length ci, .slice Ae es.length ce, .string t.f0, .slice Ax t.f1.length cx, .slice Ap t.f2.length cp, .slice Ag pages.length cg])) (fun i _ => pages.length - (intOf i).toNat)
    case atStart => exact ⟨0, by omega, rfl, ⟨by simp⟩, HS3⟩
    case round =>
      clear HS3
      obtain ⟨k, hk, rfl, HLOW, HS⟩ := hrel
      have z12 := (blk_cell HS.out.bx 12).trans rfl
      by_cases hlt : k < pages.length
      · obtain ⟨ad, rfl, g0⟩ := Kd.at_int HRG.out (k : Int) (by omega) (by omega)
        replace g0 := below_cell0 HS.out.below g0
        have e5 : ((k : Int)).toNat = k := by simp
        have e6 : rd pages (k : Int) = pages[k] := by unfold rd; simp [hlt]
        rw [e5, e6] at g0
        clear e5 e6
        have hnext : pages.take (k + 1) = pages.take k ++ [pages[k]] := (List.take_append_getElem hlt).symm
        obtain ⟨x, hx⟩ : ∃ x, pages[k] = x := ⟨_, rfl⟩
        rw [hx] at g0 hnext
        clear hx
        have HNEXT := Aside0.mk hnext; clear hnext
        have q1 : (k : Int) < (pages.length : Int) := by omega
        by_cases hx : x < -1000000
        · have d1 : decide (x < -1000000) = true := decide_eq_true hx
          go_wp2
          go_ret
          exact ⟨rfl, HS.out.below⟩
        · have d1 : decide (x < -1000000) = false := decide_eq_false hx
          have HX := Aside0.mk (show -1000000 ≤ x by omega); clear hx
          go_wp2
          exact ⟨⟨k + 1, by omega, by go_num, ⟨by rw [HNEXT.out]; intro y hy; rcases List.mem_append.1 hy with hy | hy; exact HLOW.out y hy; rw [List.mem_singleton.1 hy]; exact HX.out⟩, HS⟩, by simp [intOf]; omega⟩
      · obtain rfl : k = pages.length := by omega
        have hpg : ∀ n ∈ pages, numIn n := fun n hn => ⟨HLOW.out n (by rw [List.take_length]; exact hn), HG.out n hn⟩
        have HPG := Aside0.mk hpg; clear hpg HLOW hlt hk
        go_upto_region 9 with fail
        clear z12
        go_loopw [4] (fun i wx => ∃ k : Nat, k ≤ es.length ∧ i = .int .i64 k ∧ Aside0 (∀ x ∈ es.take k, -1000000 ≤ x.f0) ∧ Aside0 (RefSt w wx #[.int .i64 err, .int .i64 line, .string tok, .bool has, .bool cut, .slice At ts.length ct, .slice Au us.length cu, .slice Ai ids.length ci, .slice Ae es.length ce, .string t.f0, .slice Ax t.f1.length cx, .slice Ap t.f2.length cp, .slice Ag pages.length cg])) (fun i _ => es.length - (intOf i).toNat)
        case atStart => exact ⟨0, by omega, rfl, ⟨by simp⟩, HS⟩
        case round =>
          clear HS
          obtain ⟨k, hk, rfl, HLOW, HS⟩ := hrel
          have z8 := (blk_cell HS.out.bx 8).trans rfl
          by_cases hlt : k < es.length
          · obtain ⟨ad, rfl, g0, _⟩ := at_T55 HRE.out (k : Int) (by omega) (by omega)
            replace g0 := below_cell0 HS.out.below g0
            have e5 : ((k : Int)).toNat = k := by simp
            rw [e5, rd_T55_at es k hlt] at g0
            clear e5
            have hnext : es.take (k + 1) = es.take k ++ [es[k]] := (List.take_append_getElem hlt).symm
            obtain ⟨x, hx⟩ : ∃ x, es[k] = x := ⟨_, rfl⟩
            rw [hx] at g0 hnext
            clear hx
            have HNEXT := Aside0.mk hnext; clear hnext
            have q1 : (k : Int) < (es.length : Int) := by omega
            by_cases hx : x.f0 < -1000000
            · have d1 : decide (x.f0 < -1000000) = true := decide_eq_true hx
              go_wp2
              go_ret
              exact ⟨rfl, HS.out.below⟩
            · have d1 : decide (x.f0 < -1000000) = false := decide_eq_false hx
              have HX := Aside0.mk (show -1000000 ≤ x.f0 by omega); clear hx
              go_wp2
              exact ⟨⟨k + 1, by omega, by go_num, ⟨by rw [HNEXT.out]; intro y hy; rcases List.mem_append.1 hy with hy | hy; exact HLOW.out y hy; rw [List.mem_singleton.1 hy]; exact HX.out⟩, HS⟩, by simp [intOf]; omega⟩
          · obtain rfl : k = es.length := by omega
            have hes : ∀ x ∈ es, numIn x.f0 := fun n hn => ⟨HLOW.out n (by rw [List.take_length]; exact hn), (HEE.out n hn).2⟩
            have HES := Aside0.mk hes; clear hes HLOW hlt hk
            obtain ⟨ks, hks⟩ := refSize_f 8 t (by omega) hfew
            have hnt : nodes t < 4611686018427387904 := by have := few_nodes 8 t hfew; have := pow_small 8 (by omega); omega
            have HKS := Aside0.mk hks; clear hks
            have hsize : ∀ wx, Below w.heap.size w wx → Calls Tryz.prog 17 #[.agg #[.string t.f0, .slice Ax t.f1.length cx, .slice Ap t.f2.length cp]] wx fun e w' => e = .returned (.int .i64 (nodes t : Int)) ∧ Below wx.heap.size wx w' := fun wx hb => lunetteref15_Size.calls ks t.f0 Ax cx t.f1 Ap cp t.f2 (nodes t : Int) wx (Kd.C_below HRX.out hb) HLX.out (Kd.C_below HRP.out hb) HLP.out HKS.out
            have hnn : numIn (nodes t : Int) := ⟨by omega, by omega⟩
            have herr2 : numIn err := ⟨by omega, herr⟩
            have hline2 : numIn line := ⟨by omega, hline⟩
            have hsz := ans_size err line tok has cut ts us ids es t pages herr2 hline2 (by omega) (by omega) (by omega) (by omega) (by omega) HES.out HPG.out HTOK.out HI.out hnn
            have h18 : ∀ w1, Below w.heap.size w w1 → Calls Tryz.prog 18 #[.agg #[.int .i64 err, .int .i64 line, .string tok, .bool has, .bool cut, .slice At ts.length ct, .slice Au us.length cu, .slice Ai ids.length ci, .slice Ae es.length ce, .string t.f0, .slice Ax t.f1.length cx, .slice Ap t.f2.length cp, .slice Ag pages.length cg]] w1 fun e w' => e = .returned (.string (joined (ansW err line tok has cut ts us ids es t pages) ++ ⟨#[10]⟩)) ∧ Below w1.heap.size w1 w' := fun w1 hb =>
              tell_any w0 F err line tok has cut At ct ts Au cu us Ai ci ids Ae ce es t Ax cx Ap cp Ag cg pages herr2 hline2 (by omega) (by omega) (by omega) (by omega) (by omega) HES.out HPG.out 8 (by omega) hfew hnt (by omega) w1 (HN.out hb) (Kd.C_below HRT.out hb) (Kd.C_below HRU.out hb) (Kd.C_below HRI.out hb) (Kd.C_below HRE.out hb) (Kd.C_below HRP.out hb) (Kd.C_below HRG.out hb)
            have h19 : ∀ w1, Below w.heap.size w w1 → Calls Tryz.prog 19 #[.agg #[.int .i64 err, .int .i64 line, .string tok, .bool has, .bool cut, .slice At ts.length ct, .slice Au us.length cu, .slice Ai ids.length ci, .slice Ae es.length ce, .string t.f0, .slice Ax t.f1.length cx, .slice Ap t.f2.length cp, .slice Ag pages.length cg]] w1 fun e w' => e = .returned (.string (joined (ansW err line tok has cut ts us ids es t pages) ++ ⟨#[10]⟩)) ∧ Below w1.heap.size w1 w' := fun w1 hb =>
              refTell_any err line tok has cut At ct ts Au cu us Ai ci ids Ae ce es t Ax cx Ap cp Ag cg pages herr2 hline2 (by omega) (by omega) (by omega) (by omega) (by omega) HES.out HPG.out HTOK.out HI.out HT.out HU.out (fun x hx => (HEE.out x hx).1) hnt w1 (fun wx hb2 => hsize wx (below_step hb hb2)) (Kd.C_below HRT.out hb) (Kd.C_below HRU.out hb) (Kd.C_below HRI.out hb) (Kd.C_below HRE.out hb) (Kd.C_below HRG.out hb)
            obtain ⟨R, hR⟩ : ∃ R, joined (ansW err line tok has cut ts us ids es t pages) ++ (⟨#[10]⟩ : ByteArray) = R := ⟨_, rfl⟩
            rw [hR] at h18 h19
            clear hR hsz hnn hnt herr2 hline2
            have H18 := Aside0.mk h18; have H19 := Aside0.mk h19; have HSIZE := Aside0.mk hsize
            clear h18 h19 hsize hfew
            have z9 := (blk_cell HS.out.bx 9).trans rfl; have z10 := (blk_cell HS.out.bx 10).trans rfl; have z11 := (blk_cell HS.out.bx 11).trans rfl
            go_wp2_with fail
            refine (HSIZE.out _ HS.out.below).mono ?_
            rintro e w5 ⟨rfl, hb⟩
            have HS5 := Aside0.mk (HS.out.step hb); clear hb z9 z10 z11 z8 HS
            have se : (R.toList == R.toList) = true := by simp
            by_cases c9 : (500 : Int) < (nodes t : Int)
            · have d9 : decide ((500 : Int) < (nodes t : Int)) = true := decide_eq_true c9
              go_wp2
              go_ret
              exact ⟨rfl, HS5.out.below⟩
            · have d9 : decide ((500 : Int) < (nodes t : Int)) = false := decide_eq_false c9
              go_upto_region 15 with fail
              go_region_held3 (fun w' => w'.cell? ⟨w.heap.size, 0, none⟩ = some (.int .i64 err) ∧ w'.cell? ⟨w.heap.size, 1, none⟩ = some (.int .i64 line) ∧ w'.cell? ⟨w.heap.size, 2, none⟩ = some (.string tok) ∧ w'.cell? ⟨w.heap.size, 3, none⟩ = some (.bool has) ∧ w'.cell? ⟨w.heap.size, 4, none⟩ = some (.bool cut) ∧ w'.cell? ⟨w.heap.size, 5, none⟩ = some (.slice At ts.length ct) ∧ w'.cell? ⟨w.heap.size, 6, none⟩ = some (.slice Au us.length cu) ∧ w'.cell? ⟨w.heap.size, 7, none⟩ = some (.slice Ai ids.length ci) ∧ w'.cell? ⟨w.heap.size, 8, none⟩ = some (.slice Ae es.length ce) ∧ w'.cell? ⟨w.heap.size, 9, none⟩ = some (.string t.f0) ∧ w'.cell? ⟨w.heap.size, 10, none⟩ = some (.slice Ax t.f1.length cx) ∧ w'.cell? ⟨w.heap.size, 11, none⟩ = some (.slice Ap t.f2.length cp) ∧ w'.cell? ⟨w.heap.size, 12, none⟩ = some (.slice Ag pages.length cg) ∧ Aside0 (RefSt w w' #[.int .i64 err, .int .i64 line, .string tok, .bool has, .bool cut, .slice At ts.length ct, .slice Au us.length cu, .slice Ai ids.length ci, .slice Ae es.length ce, .string t.f0, .slice Ax t.f1.length cx, .slice Ap t.f2.length cp, .slice Ag pages.length cg])) (first | assumption | exact ⟨(blk_cell HS5.out.bx 0).trans rfl, (blk_cell HS5.out.bx 1).trans rfl, (blk_cell HS5.out.bx 2).trans rfl, (blk_cell HS5.out.bx 3).trans rfl, (blk_cell HS5.out.bx 4).trans rfl, (blk_cell HS5.out.bx 5).trans rfl, (blk_cell HS5.out.bx 6).trans rfl, (blk_cell HS5.out.bx 7).trans rfl, (blk_cell HS5.out.bx 8).trans rfl, (blk_cell HS5.out.bx 9).trans rfl, (blk_cell HS5.out.bx 10).trans rfl, (blk_cell HS5.out.bx 11).trans rfl, (blk_cell HS5.out.bx 12).trans rfl, HS5⟩ | exact ⟨(blk_cell HS5.out.bx 0).trans rfl, (blk_cell HS5.out.bx 1).trans rfl, (blk_cell HS5.out.bx 2).trans rfl, (blk_cell HS5.out.bx 3).trans rfl, (blk_cell HS5.out.bx 4).trans rfl, (blk_cell HS5.out.bx 5).trans rfl, (blk_cell HS5.out.bx 6).trans rfl, (blk_cell HS5.out.bx 7).trans rfl, (blk_cell HS5.out.bx 8).trans rfl, (blk_cell HS5.out.bx 9).trans rfl, (blk_cell HS5.out.bx 10).trans rfl, (blk_cell HS5.out.bx 11).trans rfl, (blk_cell HS5.out.bx 12).trans rfl, ⟨⟨HS5.out.bx, pw_below_drewN HS5.out.below 1⟩⟩⟩)
                (first | (go_at_call 18; with_reducible refine (H18.out _ (tell_below (by assumption))).mono ?_; rintro e w' ⟨rfl, hb⟩; have hsx := tell_keep hb (by assumption)) | (go_at_call 19; with_reducible refine (H19.out _ (tell_below (by assumption))).mono ?_; rintro e w' ⟨rfl, hb⟩; have hsx := tell_keep hb (by assumption)))
              all_goals (
                rename_i hend
                have HS9 := hend.2.2.2.2.2.2.2.2.2.2.2.2.2
                clear hend
                go_wp2
                go_ret
                exact ⟨rfl, HS9.out.below⟩)
end Go.Proofs.YtbdoafigggcdpaaGreatDoor.PScr
