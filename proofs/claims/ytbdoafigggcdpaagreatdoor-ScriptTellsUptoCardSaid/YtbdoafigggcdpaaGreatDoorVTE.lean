/- The walk of script.Tell: an answer's words, joined. No condition of ours. -/
import Derived.Test.YtbdoafigggcdpaaGreatDoorVTD
import Derived.Test.YtbdoafigggcdpaaGreatDoorVMG
namespace Go.Proofs.YtbdoafigggcdpaaGreatDoor.PScr
open Go.RowKit Go.Proofs.YtbdoafigggcdpaaGreatDoorW.PrintWords Go.Proofs.YtbdoafigggcdpaaGreatDoorW.PrintLast Go.Proofs.YtbdoafigggcdpaaGreatDoorW.PrintMore
set_option linter.unusedVariables false
set_option linter.unusedSimpArgs false

def sgnW (b : Bool) : ByteArray := if b then ⟨#[45]⟩ else ⟨#[43]⟩
def entW (x : S55) : List ByteArray := [itoaB x.f0, sgnW x.f1.f1 ++ tupW x.f1.f0]
/-- an answer's words -/
def ansW (err line : Int) (tok : ByteArray) (has cut : Bool) (ts : List S51) (us : List S49) (ids : List ByteArray) (es : List S55) (t : S44) (pages : List Int) : List ByteArray :=
  (if err = 0 then [⟨#[111, 107]⟩] else [⟨#[101, 114, 114, 111, 114]⟩, itoaB err, itoaB line]) ++ (if tok.toList = [] then [] else [tok]) ++ (if has then [⟨#[104, 97, 115]⟩] else []) ++ (if cut then [⟨#[99, 117, 116]⟩] else []) ++ ts.map tupW ++ us.map usrW ++ ids ++ es.flatMap entW ++ (if t.f0.toList = [] then [] else [⟨#[101, 120, 112, 97, 110, 100]⟩, itoaB (nodes t)]) ++ pages.map itoaB
theorem joinBig_any {w : World} {base n : Nat} {v : Value} {vs : List ByteArray} (h : w.ownsRow base 9 1 v n (vs.map Value.string)) (hn : n ≤ 1000) (hpos : 0 < n) (hl : (joined vs).size ≤ 140737488355328) :
    Calls Tryz.prog 46 #[v, .string ⟨#[32]⟩] w fun e w' => e = .returned (.string (joined vs)) ∧ Below w.heap.size w w' := by
  obtain ⟨hlen, h2⟩ := h
  rw [List.length_map, Nat.mul_one] at hlen
  rcases h2 with ⟨rfl, h0⟩ | ⟨g, cap, cur, rfl, hb, hg, h3, h4, h5, h6⟩
  · omega
  · have hc : ∀ (j : Nat) x, vs[j]? = some x → w.cell? ⟨g, 0 + j, none⟩ = some (.string x) := by
      intro j x hx
      have hj : j < vs.length := (List.getElem?_eq_some_iff.1 hx).1
      rw [Nat.zero_add, blk_cell hg]
      have h7 : (cur.toList.take (n * 1))[j]? = (vs.map Value.string)[j]? := by rw [h6]
      rw [List.getElem?_take, if_pos (by omega)] at h7
      rw [← Array.getElem?_toList, h7]
      simp [hx]
    have := Tryz.strings_Join g 0 cap vs ⟨#[32]⟩ w hc (blk_lt hg) (by omega) (by omega) (by
      have e : (joined vs).size = (Lib.join (vs.map (·.data.toList)) [32]).length := by unfold joined; show (List.toArray _).size = _; simp
      show (Lib.join (vs.map (·.data.toList)) [32]).length ≤ _
      omega)
    rw [hlen] at this
    exact this

/-- the state of Tell: its words, its answer's box -/
structure TellSt (w wx : World) (box : Array Value) (ws : List ByteArray) : Prop where
  words : WordsAt wx (w.heap.size + 1 + 1) (w.heap.size + 1) ws
  bx : wx.heap[w.heap.size]? = some (.cells box 46 (0, 0))
  below : Below w.heap.size w wx
theorem TellSt.step {w wx w' : World} {box : Array Value} {ws : List ByteArray} (h : TellSt w wx box ws) (hb : Below wx.heap.size wx w') : TellSt w w' box ws :=
  ⟨words_below h.words hb, blk_below h.bx hb, below_step h.below hb⟩
theorem TellSt.put {w wx : World} {box : Array Value} {ws : List ByteArray} (h : TellSt w wx box ws) (hl : ws.length ≤ 1000000) (s : ByteArray) :
    Calls Tryz.prog 41 #[.string s, .pointer (some ⟨w.heap.size + 1 + 1, 0, none⟩)] wx fun e w' => e = .returned (.tuple #[]) ∧ TellSt w w' box (ws ++ [s]) := by
  have hlt : w.heap.size + 1 + 1 < wx.heap.size := by obtain ⟨v, hv, _⟩ := h.words; exact blk_lt hv
  refine (put_any (w.heap.size + 1) (w.heap.size + 1 + 1) (by omega) s ws hl wx (by omega) h.words).mono ?_
  rintro e w' ⟨he, hw, hb⟩
  exact ⟨he, hw, (hb.block w.heap.size (by omega)).trans h.bx, ⟨hb.os.trans h.below.os, hb.tape.trans h.below.tape, hb.output.trans h.below.output, Nat.le_trans h.below.size hb.size, fun k hk => (hb.block k (by omega)).trans (h.below.block k hk)⟩⟩
theorem rd_T49_at (l : List S49) (k : Nat) (h : k < l.length) : rd_T49 l (k : Int) = l[k] := by unfold rd_T49; simp [h]
theorem rd_T55_at (l : List S55) (k : Nat) (h : k < l.length) : rd_T55 l (k : Int) = l[k] := by unfold rd_T55; simp [h]
theorem rdOf_at (ids : List ByteArray) (k : Nat) (h : k < ids.length) : rdOf ByteArray.empty ids (k : Int) = ids[k] := by unfold rdOf; simp [h]
theorem map_next {α : Type} (f : α → ByteArray) (l : List α) (k : Nat) (h : k < l.length) : (l.take (k + 1)).map f = (l.take k).map f ++ [f l[k]] := by rw [← List.take_append_getElem h, List.map_append]; rfl
theorem flat_next {α : Type} (f : α → List ByteArray) (l : List α) (k : Nat) (h : k < l.length) : (l.take (k + 1)).flatMap f = (l.take k).flatMap f ++ f l[k] := by rw [← List.take_append_getElem h, List.flatMap_append]; simp
theorem entW_len : ∀ (l : List S55), (l.flatMap entW).length = 2 * l.length
  | [] => rfl
  | x :: r => by rw [List.flatMap_cons, List.length_append, entW_len r, List.length_cons]; show 2 + _ = _; omega

set_option maxRecDepth 100000 in
set_option maxHeartbeats 8000000 in
theorem tell_any (w0 : World) (F : Facts w0) (err line : Int) (tok : ByteArray) (has cut : Bool) (At : Option Addr) (ct : Nat) (ts : List S51) (Au : Option Addr) (cu : Nat) (us : List S49) (Ai : Option Addr) (ci : Nat) (ids : List ByteArray) (Ae : Option Addr) (ce : Nat) (es : List S55) (t : S44) (Ax : Option Addr) (cx : Nat) (Ap : Option Addr) (cp : Nat) (Ag : Option Addr) (cg : Nat) (pages : List Int)
    (herr : numIn err) (hline : numIn line) (lt : ts.length ≤ 40) (lu : us.length ≤ 40) (li : ids.length ≤ 40) (le : es.length ≤ 40) (lg : pages.length ≤ 40) (hes : ∀ x ∈ es, numIn x.f0) (hpg : ∀ n ∈ pages, numIn n) (d : Nat) (hd : d ≤ 100) (hft : FewT d t) (hnt : nodes t < 4611686018427387904) (hfin : (joined (ansW err line tok has cut ts us ids es t pages)).size ≤ 140737488355328)
    (w : World) (hB0 : Below w0.heap.size w0 w) (rt : Kd.C k51 w At ts.length ts) (ru : Kd.C k49 w Au us.length us) (ri : Kd.string.C w Ai ids.length ids) (re : Kd.C k55 w Ae es.length es) (rp : Kd.C k44 w Ap t.f2.length t.f2) (rg : (Kd.int .i64).C w Ag pages.length pages) :
    Calls Tryz.prog 18 #[.agg #[.int .i64 err, .int .i64 line, .string tok, .bool has, .bool cut, .slice At ts.length ct, .slice Au us.length cu, .slice Ai ids.length ci, .slice Ae es.length ce, .string t.f0, .slice Ax t.f1.length cx, .slice Ap t.f2.length cp, .slice Ag pages.length cg]] w fun e w' => e = .returned (.string (joined (ansW err line tok has cut ts us ids es t pages) ++ ⟨#[10]⟩)) ∧ Below w.heap.size w w' := by
  have hu46 := Tryz.underlying46
  have hu44 := Tryz.underlying44
  have hu51 := Tryz.underlying51
  have hu49 := Tryz.underlying49
  have hu55 := Tryz.underlying55
  have hu53 := Tryz.underlying53
  have hit : ∀ n, numIn n → ∀ wx, Below w.heap.size w wx → Calls Tryz.prog 42 #[.int .i64 n] wx fun e w' => e = .returned (.string (itoaB n)) ∧ Below wx.heap.size wx w' := by
    intro n hn wx hb
    have h := Tryz.strconv_Itoa n (by have := hn.1; omega) (by have := hn.2; omega) wx ((F.tabBelow hB0) |> fun t => (show Lib.TabIs Tryz.prog wx "internal/strconv.uint64pow10" .u64 Lib.pow10Tab from var_below hb t))
    exact h.mono fun e w' ⟨h1, k, os, h2⟩ => ⟨h1, by rw [h2]; exact Lib.below_grow _ _ (Nat.le_refl _) _ _⟩
  have HIT := Aside0.mk hit; clear hit
  have hsz : ∀ wx, Below w.heap.size w wx → Calls Tryz.prog 45 #[.agg #[.string t.f0, .slice Ax t.f1.length cx, .slice Ap t.f2.length cp]] wx fun e w' => e = .returned (.int .i64 (nodes t : Int)) ∧ Below wx.heap.size wx w' := fun wx hb => size_any d hd t hft hnt Ax cx Ap cp wx (Kd.C_below rp hb)
  have HSIZE := Aside0.mk hsz; clear hsz
  have hnn : numIn (nodes t : Int) := ⟨by omega, by omega⟩
  have HNN := Aside0.mk hnn
  have HRT := Aside0.mk rt; have HRU := Aside0.mk ru; have HRI := Aside0.mk ri; have HRE := Aside0.mk re; have HRG := Aside0.mk rg
  have HES := Aside0.mk hes; have HPG := Aside0.mk hpg
  have HERR := Aside0.mk herr; have HLINE := Aside0.mk hline
  obtain ⟨ans, hans⟩ : ∃ ans, ansW err line tok has cut ts us ids es t pages = ans := ⟨_, rfl⟩
  rw [hans] at hfin ⊢
  have HANS := Aside0.mk hans
  have HFIN := Aside0.mk hfin
  clear rt ru ri re rg hes hpg herr hline hfin rp hft hnt hB0 hnn hans
  have hkx := box_blk w #[.int .i64 err, .int .i64 line, .string tok, .bool has, .bool cut, .slice At ts.length ct, .slice Au us.length cu, .slice Ai ids.length ci, .slice Ae es.length ce, .string t.f0, .slice Ax t.f1.length cx, .slice Ap t.f2.length cp, .slice Ag pages.length cg] 46
  have hX := blk_alloc (blk_alloc hkx (.cells #[.string ⟨#[111, 107]⟩] 9)) (.cells #[.slice (some ⟨w.heap.size + 1, 0, none⟩) 1 1] 40)
  have hA : (((w.alloc (.cells #[.int .i64 err, .int .i64 line, .string tok, .bool has, .bool cut, .slice At ts.length ct, .slice Au us.length cu, .slice Ai ids.length ci, .slice Ae es.length ce, .string t.f0, .slice Ax t.f1.length cx, .slice Ap t.f2.length cp, .slice Ag pages.length cg] 46)).alloc (.cells #[.string ⟨#[111, 107]⟩] 9)).alloc (.cells #[.slice (some ⟨w.heap.size + 1, 0, none⟩) 1 1] 40)).heap[w.heap.size + 1]? = some (.cells #[.string ⟨#[111, 107]⟩] 9 (0, 0)) := by
    have h := box_blk (w.alloc (.cells #[.int .i64 err, .int .i64 line, .string tok, .bool has, .bool cut, .slice At ts.length ct, .slice Au us.length cu, .slice Ai ids.length ci, .slice Ae es.length ce, .string t.f0, .slice Ax t.f1.length cx, .slice Ap t.f2.length cp, .slice Ag pages.length cg] 46)) #[.string ⟨#[111, 107]⟩] 9
    rw [size_alloc1] at h
    exact blk_alloc h _
  have hC : (((w.alloc (.cells #[.int .i64 err, .int .i64 line, .string tok, .bool has, .bool cut, .slice At ts.length ct, .slice Au us.length cu, .slice Ai ids.length ci, .slice Ae es.length ce, .string t.f0, .slice Ax t.f1.length cx, .slice Ap t.f2.length cp, .slice Ag pages.length cg] 46)).alloc (.cells #[.string ⟨#[111, 107]⟩] 9)).alloc (.cells #[.slice (some ⟨w.heap.size + 1, 0, none⟩) 1 1] 40)).heap[w.heap.size + 1 + 1]? = some (.cells #[.slice (some ⟨w.heap.size + 1, 0, none⟩) 1 1] 40 (0, 0)) := by
    have h := box_blk ((w.alloc (.cells #[.int .i64 err, .int .i64 line, .string tok, .bool has, .bool cut, .slice At ts.length ct, .slice Au us.length cu, .slice Ai ids.length ci, .slice Ae es.length ce, .string t.f0, .slice Ax t.f1.length cx, .slice Ap t.f2.length cp, .slice Ag pages.length cg] 46)).alloc (.cells #[.string ⟨#[111, 107]⟩] 9)) #[.slice (some ⟨w.heap.size + 1, 0, none⟩) 1 1] 40
    rwa [size_alloc1, size_alloc1] at h
  have hb := below_alloc (below_alloc (below_alloc (Below.refl w.heap.size w) (.cells #[.int .i64 err, .int .i64 line, .string tok, .bool has, .bool cut, .slice At ts.length ct, .slice Au us.length cu, .slice Ai ids.length ci, .slice Ae es.length ce, .string t.f0, .slice Ax t.f1.length cx, .slice Ap t.f2.length cp, .slice Ag pages.length cg] 46)) (.cells #[.string ⟨#[111, 107]⟩] 9)) (.cells #[.slice (some ⟨w.heap.size + 1, 0, none⟩) 1 1] 40)
  obtain ⟨W1, hW1⟩ : ∃ W, ((w.alloc (.cells #[.int .i64 err, .int .i64 line, .string tok, .bool has, .bool cut, .slice At ts.length ct, .slice Au us.length cu, .slice Ai ids.length ci, .slice Ae es.length ce, .string t.f0, .slice Ax t.f1.length cx, .slice Ap t.f2.length cp, .slice Ag pages.length cg] 46)).alloc (.cells #[.string ⟨#[111, 107]⟩] 9)).alloc (.cells #[.slice (some ⟨w.heap.size + 1, 0, none⟩) 1 1] 40) = W := ⟨_, rfl⟩
  rw [hW1] at hX hA hC hb
  have HX := Aside0.mk hX; have HA := Aside0.mk hA; have HC := Aside0.mk hC; have HB := Aside0.mk hb; have HW := Aside0.mk hW1
  have HS : Aside0 (TellSt w W1 #[.int .i64 err, .int .i64 line, .string tok, .bool has, .bool cut, .slice At ts.length ct, .slice Au us.length cu, .slice Ai ids.length ci, .slice Ae es.length ce, .string t.f0, .slice Ax t.f1.length cx, .slice Ap t.f2.length cp, .slice Ag pages.length cg] [⟨#[111, 107]⟩]) := ⟨⟨⟨_, hC, rfl, .inr ⟨w.heap.size + 1, 1, _, rfl, Nat.le_refl _, hA, by simp, by unfold maxLen; omega, rfl, rfl⟩⟩, hX, hb⟩⟩
  have HE : Aside0 (TellSt w (W1.setCell ⟨w.heap.size + 1, 0, none⟩ (.string ⟨#[101, 114, 114, 111, 114]⟩)) #[.int .i64 err, .int .i64 line, .string tok, .bool has, .bool cut, .slice At ts.length ct, .slice Au us.length cu, .slice Ai ids.length ci, .slice Ae es.length ce, .string t.f0, .slice Ax t.f1.length cx, .slice Ap t.f2.length cp, .slice Ag pages.length cg] [⟨#[101, 114, 114, 111, 114]⟩]) := ⟨⟨⟨_, (Below.heap_setCell _ _ _ _ (by show w.heap.size + 1 + 1 ≠ w.heap.size + 1; omega)).trans hC, rfl, .inr ⟨w.heap.size + 1, 1, _, rfl, Nat.le_refl _, blk_set hA 0 _, by simp, by unfold maxLen; omega, rfl, rfl⟩⟩, (Below.heap_setCell _ _ _ _ (by show w.heap.size ≠ w.heap.size + 1; omega)).trans hX, hb.setCell (by show w.heap.size ≤ w.heap.size + 1; omega) _⟩⟩
  clear hX hA hC hb hW1
  have z0 := (blk_cell hkx 0).trans rfl
  clear hkx
  go_enter Tryz.func18, Tryz.ntmps18
  have z0 := (blk_cell HX.out 0).trans rfl
  have a0 := (blk_cell HA.out 0).trans rfl; have fa := blk_frozen HA.out 0; have c0 := (blk_cell HC.out 0).trans rfl
  go_upto_if 26 with fail
  rw [HW.out]
  clear HW
  go_cut [0, 2] (fun s0 s2 wx => s2 = .string ⟨#[]⟩ ∧ Aside0 (TellSt w wx #[.int .i64 err, .int .i64 line, .string tok, .bool has, .bool cut, .slice At ts.length ct, .slice Au us.length cu, .slice Ai ids.length ci, .slice Ae es.length ce, .string t.f0, .slice Ax t.f1.length cx, .slice Ap t.f2.length cp, .slice Ag pages.length cg] (if err = 0 then [⟨#[111, 107]⟩] else [⟨#[101, 114, 114, 111, 114]⟩, itoaB err, itoaB line])))
  case first =>
    by_cases he : err = 0
    · have e1 : (err != 0) = false := by simp [he]
      have HE0 := Aside0.mk he; clear he
      go_wp2
      go_meet
      exact ⟨rfl, ⟨by rw [if_pos HE0.out]; exact HS.out⟩⟩
    · have e1 : (err != 0) = true := by simp [he]
      have HE0 := Aside0.mk he; clear he
      have z0s := (blk_cell HE.out.bx 0).trans rfl
      go_wp2_with fail
      refine (HIT.out err HERR.out _ HE.out.below).mono ?_
      rintro e w2 ⟨rfl, hb2⟩
      have HS2 := Aside0.mk (HE.out.step hb2); clear hb2 z0 z0s
      go_wp2_with fail
      refine (HS2.out.put (by simp) (itoaB err)).mono ?_
      rintro e w3 ⟨rfl, hs3⟩
      have HS3 := Aside0.mk hs3; clear hs3
      have z1 := (blk_cell HS3.out.bx 1).trans rfl
      go_wp2_with fail
      refine (HIT.out line HLINE.out _ HS3.out.below).mono ?_
      rintro e w4 ⟨rfl, hb4⟩
      have HS4 := Aside0.mk (HS3.out.step hb4); clear hb4 z1
      go_wp2_with fail
      refine (HS4.out.put (by simp) (itoaB line)).mono ?_
      rintro e w5 ⟨rfl, hs5⟩
      have HS5 := Aside0.mk hs5; clear hs5
      go_wp2
      go_meet
      exact ⟨rfl, ⟨by rw [if_neg HE0.out]; exact HS5.out⟩⟩
  case rest =>
    clear HS HE HX HA HC HB z0 a0 fa c0
    obtain ⟨rfl, HS⟩ := hcut
    have hl1 : (if err = 0 then [⟨#[111, 107]⟩] else [⟨#[101, 114, 114, 111, 114]⟩, itoaB err, itoaB line] : List ByteArray).length ≤ 3 := by split <;> simp
    obtain ⟨ws1, hws1⟩ : ∃ ws, (if err = 0 then [⟨#[111, 107]⟩] else [⟨#[101, 114, 114, 111, 114]⟩, itoaB err, itoaB line] : List ByteArray) = ws := ⟨_, rfl⟩
    rw [hws1] at HS hl1
    have HW1 := Aside0.mk hws1; clear hws1
    have z2 := (blk_cell HS.out.bx 2).trans rfl
    go_upto_if 41 with fail
    clear z2
    obtain ⟨bt, hbt⟩ : ∃ b, (!tok.toList.isEmpty) = b := ⟨_, rfl⟩
    rw [hbt]
    have HBT := Aside0.mk hbt; clear hbt
    go_cut [0, 2] (fun s0 s2 wx => s2 = .string ⟨#[]⟩ ∧ Aside0 (TellSt w wx #[.int .i64 err, .int .i64 line, .string tok, .bool has, .bool cut, .slice At ts.length ct, .slice Au us.length cu, .slice Ai ids.length ci, .slice Ae es.length ce, .string t.f0, .slice Ax t.f1.length cx, .slice Ap t.f2.length cp, .slice Ag pages.length cg] (ws1 ++ (if tok.toList = [] then [] else [tok]))))
    case first =>
      cases bt
      · have HK := Aside0.mk (show tok.toList = [] by have := HBT.out; simpa using this)
        go_wp2
        go_meet
        exact ⟨rfl, ⟨by rw [if_pos HK.out, List.append_nil]; exact HS.out⟩⟩
      · have HK := Aside0.mk (show ¬ tok.toList = [] by have := HBT.out; simpa using this)
        have z2 := (blk_cell HS.out.bx 2).trans rfl
        go_wp2_with fail
        refine (HS.out.put (by omega) tok).mono ?_
        rintro e w2 ⟨rfl, hs2⟩
        have HS2 := Aside0.mk hs2; clear hs2 z2
        go_wp2
        go_meet
        exact ⟨rfl, ⟨by rw [if_neg HK.out]; exact HS2.out⟩⟩
    case rest =>
      clear HS
      obtain ⟨rfl, HS⟩ := hcut
      have hl2 : (ws1 ++ (if tok.toList = [] then [] else [tok]) : List ByteArray).length ≤ 4 := by rw [List.length_append]; split <;> simp <;> omega
      obtain ⟨ws2, hws2⟩ : ∃ ws, (ws1 ++ (if tok.toList = [] then [] else [tok]) : List ByteArray) = ws := ⟨_, rfl⟩
      rw [hws2] at HS hl2
      have HW2 := Aside0.mk hws2; clear hws2
      have z3 := (blk_cell HS.out.bx 3).trans rfl
      go_upto_if 47 with fail
      clear z3

      go_cut [0, 2] (fun s0 s2 wx => s2 = .string ⟨#[]⟩ ∧ Aside0 (TellSt w wx #[.int .i64 err, .int .i64 line, .string tok, .bool has, .bool cut, .slice At ts.length ct, .slice Au us.length cu, .slice Ai ids.length ci, .slice Ae es.length ce, .string t.f0, .slice Ax t.f1.length cx, .slice Ap t.f2.length cp, .slice Ag pages.length cg] (ws2 ++ (if has = true then [⟨#[104, 97, 115]⟩] else []))))
      case first =>
        cases hhas : has
        · have HK := Aside0.mk hhas; clear hhas
          go_wp2
          go_meet
          exact ⟨rfl, ⟨by rw [if_neg (show ¬ has = true by rw [HK.out]; decide), List.append_nil]; exact HS.out⟩⟩
        · have HK := Aside0.mk hhas; clear hhas
          go_wp2_with fail
          refine (HS.out.put (by omega) ⟨#[104, 97, 115]⟩).mono ?_
          rintro e w2 ⟨rfl, hs2⟩
          have HS2 := Aside0.mk hs2; clear hs2
          go_wp2
          go_meet
          exact ⟨rfl, ⟨by rw [if_pos HK.out]; exact HS2.out⟩⟩
      case rest =>
        clear HS
        obtain ⟨rfl, HS⟩ := hcut
        have hl3 : (ws2 ++ (if has = true then [⟨#[104, 97, 115]⟩] else []) : List ByteArray).length ≤ 5 := by rw [List.length_append]; split <;> simp <;> omega
        obtain ⟨ws3, hws3⟩ : ∃ ws, (ws2 ++ (if has = true then [⟨#[104, 97, 115]⟩] else []) : List ByteArray) = ws := ⟨_, rfl⟩
        rw [hws3] at HS hl3
        have HW3 := Aside0.mk hws3; clear hws3
        have z4 := (blk_cell HS.out.bx 4).trans rfl
        go_upto_if 51 with fail
        clear z4

        go_cut [0, 2] (fun s0 s2 wx => s2 = .string ⟨#[]⟩ ∧ Aside0 (TellSt w wx #[.int .i64 err, .int .i64 line, .string tok, .bool has, .bool cut, .slice At ts.length ct, .slice Au us.length cu, .slice Ai ids.length ci, .slice Ae es.length ce, .string t.f0, .slice Ax t.f1.length cx, .slice Ap t.f2.length cp, .slice Ag pages.length cg] (ws3 ++ (if cut = true then [⟨#[99, 117, 116]⟩] else []))))
        case first =>
          cases hcut : cut
          · have HK := Aside0.mk hcut; clear hcut
            go_wp2
            go_meet
            exact ⟨rfl, ⟨by rw [if_neg (show ¬ cut = true by rw [HK.out]; decide), List.append_nil]; exact HS.out⟩⟩
          · have HK := Aside0.mk hcut; clear hcut
            go_wp2_with fail
            refine (HS.out.put (by omega) ⟨#[99, 117, 116]⟩).mono ?_
            rintro e w2 ⟨rfl, hs2⟩
            have HS2 := Aside0.mk hs2; clear hs2
            go_wp2
            go_meet
            exact ⟨rfl, ⟨by rw [if_pos HK.out]; exact HS2.out⟩⟩
        case rest =>
          clear HS
          obtain ⟨rfl, HS⟩ := hcut
          have hl4 : (ws3 ++ (if cut = true then [⟨#[99, 117, 116]⟩] else []) : List ByteArray).length ≤ 6 := by rw [List.length_append]; split <;> simp <;> omega
          obtain ⟨ws4, hws4⟩ : ∃ ws, (ws3 ++ (if cut = true then [⟨#[99, 117, 116]⟩] else []) : List ByteArray) = ws := ⟨_, rfl⟩
          rw [hws4] at HS hl4
          have HW4 := Aside0.mk hws4; clear hws4
          have z5 := (blk_cell HS.out.bx 5).trans rfl
          go_upto_region 14 with fail
          clear z5
          go_loopw [57] (fun i wx => ∃ k : Nat, k ≤ ts.length ∧ i = .int .i64 k ∧ Aside0 (TellSt w wx #[.int .i64 err, .int .i64 line, .string tok, .bool has, .bool cut, .slice At ts.length ct, .slice Au us.length cu, .slice Ai ids.length ci, .slice Ae es.length ce, .string t.f0, .slice Ax t.f1.length cx, .slice Ap t.f2.length cp, .slice Ag pages.length cg] (ws4 ++ (ts.take k).map tupW))) (fun i _ => ts.length - (intOf i).toNat)
          case atStart => exact ⟨0, by omega, rfl, ⟨by simpa using HS.out⟩⟩
          case round =>
            clear HS
            obtain ⟨k, hk, rfl, HS⟩ := hrel
            by_cases hlt : k < ts.length
            · obtain ⟨ad, rfl, g0, g1, g2, g3, g4, g5⟩ := at_T51 HRT.out (k : Int) (by omega) (by omega)
              replace g0 := below_cell0 HS.out.below g0
              replace g1 := below_cell0 HS.out.below g1
              replace g2 := below_cell0 HS.out.below g2
              replace g3 := below_cell0 HS.out.below g3
              replace g4 := below_cell0 HS.out.below g4
              replace g5 := below_cell0 HS.out.below g5
              have e5 : ((k : Int)).toNat = k := by simp
              rw [e5] at g0 g1 g2 g3 g4 g5
              clear e5
              have hnext := map_next tupW ts k hlt
              rw [← rd_T51_at ts k hlt] at hnext
              have hlen : (ws4 ++ (ts.take k).map tupW).length ≤ 1000000 := by simp; omega
              obtain ⟨x, hx⟩ : ∃ x, rd_T51 ts (k : Int) = x := ⟨_, rfl⟩
              rw [hx] at g0 g1 g2 g3 g4 g5 hnext
              clear hx
              have q1 : (k : Int) < (ts.length : Int) := by omega
              have hsh : ∀ w, Calls Tryz.prog 43 #[.agg #[.string x.f0, .string x.f1, .string x.f2, .string x.f3.f0, .string x.f3.f1, .string x.f3.f2]] w fun e w' => (∃ c, e = .returned (.tuple #[.string (tupW x), .int .i64 c])) ∧ Below w.heap.size w w' := fun w => (showTuple_any x.f0 x.f1 x.f2 x.f3.f0 x.f3.f1 x.f3.f2 w).mono fun e w' h => ⟨⟨_, h.1⟩, h.2⟩
              have HSH := Aside0.mk hsh; clear hsh
              have HNEXT := Aside0.mk hnext; clear hnext
              obtain ⟨tw, htw⟩ : ∃ tw, tupW x = tw := ⟨_, rfl⟩
              rw [htw] at HSH HNEXT
              clear htw
              go_wp2_with fail
              refine (HSH.out _).mono ?_
              rintro e w2 ⟨⟨c, rfl⟩, hb2⟩
              have HS2 := Aside0.mk (HS.out.step (below_step (below_alloc (Below.refl _ _) _) hb2)); clear hb2 g0 g1 g2 g3 g4 g5
              go_wp2_with fail
              refine (HS2.out.put hlen tw).mono ?_
              rintro e w3 ⟨rfl, hs3⟩
              have HS3 := Aside0.mk hs3; clear hs3
              go_wp2
              exact ⟨⟨k + 1, by omega, by go_num, ⟨by rw [HNEXT.out, ← List.append_assoc]; exact HS3.out⟩⟩, by simp [intOf]; omega⟩
            · obtain rfl : k = ts.length := by omega
              rw [List.take_length] at HS
              have hl5 : (ws4 ++ ts.map tupW).length ≤ 50 := by rw [List.length_append, List.length_map]; omega
              obtain ⟨ws5, hws5⟩ : ∃ ws, (ws4 ++ ts.map tupW) = ws := ⟨_, rfl⟩
              rw [hws5] at HS hl5
              have HW5 := Aside0.mk hws5; clear hws5 hlt hk
              have z6 := (blk_cell HS.out.bx 6).trans rfl
              go_upto_region 20 with fail
              clear z6
              go_loopw [73] (fun i wx => ∃ k : Nat, k ≤ us.length ∧ i = .int .i64 k ∧ Aside0 (TellSt w wx #[.int .i64 err, .int .i64 line, .string tok, .bool has, .bool cut, .slice At ts.length ct, .slice Au us.length cu, .slice Ai ids.length ci, .slice Ae es.length ce, .string t.f0, .slice Ax t.f1.length cx, .slice Ap t.f2.length cp, .slice Ag pages.length cg] (ws5 ++ (us.take k).map usrW))) (fun i _ => us.length - (intOf i).toNat)
              case atStart => exact ⟨0, by omega, rfl, ⟨by simpa using HS.out⟩⟩
              case round =>
                clear HS
                obtain ⟨k, hk, rfl, HS⟩ := hrel
                by_cases hlt : k < us.length
                · obtain ⟨ad, rfl, g0, g1, g2⟩ := at_T49 HRU.out (k : Int) (by omega) (by omega)
                  replace g0 := below_cell0 HS.out.below g0
                  replace g1 := below_cell0 HS.out.below g1
                  replace g2 := below_cell0 HS.out.below g2
                  have e5 : ((k : Int)).toNat = k := by simp
                  rw [e5] at g0 g1 g2
                  clear e5
                  have hnext := map_next usrW us k hlt
                  rw [← rd_T49_at us k hlt] at hnext
                  have hlen : (ws5 ++ (us.take k).map usrW).length ≤ 1000000 := by simp; omega
                  obtain ⟨x, hx⟩ : ∃ x, rd_T49 us (k : Int) = x := ⟨_, rfl⟩
                  rw [hx] at g0 g1 g2 hnext
                  clear hx
                  have q1 : (k : Int) < (us.length : Int) := by omega
                  have hsh : ∀ w, Calls Tryz.prog 44 #[.agg #[.string x.f0, .string x.f1, .string x.f2]] w fun e w' => (∃ c, e = .returned (.tuple #[.string (usrW x), .int .i64 c])) ∧ Below w.heap.size w w' := fun w => (showUser_any x.f0 x.f1 x.f2 w).mono fun e w' h => ⟨⟨_, h.1⟩, h.2⟩
                  have HSH := Aside0.mk hsh; clear hsh
                  have HNEXT := Aside0.mk hnext; clear hnext
                  obtain ⟨tw, htw⟩ : ∃ tw, usrW x = tw := ⟨_, rfl⟩
                  rw [htw] at HSH HNEXT
                  clear htw
                  go_wp2_with fail
                  refine (HSH.out _).mono ?_
                  rintro e w2 ⟨⟨c, rfl⟩, hb2⟩
                  have HS2 := Aside0.mk (HS.out.step (below_step (below_alloc (Below.refl _ _) _) hb2)); clear hb2 g0 g1 g2
                  go_wp2_with fail
                  refine (HS2.out.put hlen tw).mono ?_
                  rintro e w3 ⟨rfl, hs3⟩
                  have HS3 := Aside0.mk hs3; clear hs3
                  go_wp2
                  exact ⟨⟨k + 1, by omega, by go_num, ⟨by rw [HNEXT.out, ← List.append_assoc]; exact HS3.out⟩⟩, by simp [intOf]; omega⟩
                · obtain rfl : k = us.length := by omega
                  rw [List.take_length] at HS
                  have hl6 : (ws5 ++ us.map usrW).length ≤ 100 := by rw [List.length_append, List.length_map]; omega
                  obtain ⟨ws6, hws6⟩ : ∃ ws, (ws5 ++ us.map usrW) = ws := ⟨_, rfl⟩
                  rw [hws6] at HS hl6
                  have HW6 := Aside0.mk hws6; clear hws6 hlt hk
                  have z7 := (blk_cell HS.out.bx 7).trans rfl
                  go_upto_region 26 with fail
                  clear z7
                  go_loopw [89] (fun i wx => ∃ k : Nat, k ≤ ids.length ∧ i = .int .i64 k ∧ Aside0 (TellSt w wx #[.int .i64 err, .int .i64 line, .string tok, .bool has, .bool cut, .slice At ts.length ct, .slice Au us.length cu, .slice Ai ids.length ci, .slice Ae es.length ce, .string t.f0, .slice Ax t.f1.length cx, .slice Ap t.f2.length cp, .slice Ag pages.length cg] (ws6 ++ ids.take k))) (fun i _ => ids.length - (intOf i).toNat)
                  case atStart => exact ⟨0, by omega, rfl, ⟨by simpa using HS.out⟩⟩
                  case round =>
                    clear HS
                    obtain ⟨k, hk, rfl, HS⟩ := hrel
                    by_cases hlt : k < ids.length
                    · obtain ⟨ad, rfl, g0⟩ := Kd.at_string HRI.out (k : Int) (by omega) (by omega)
                      replace g0 := below_cell0 HS.out.below g0
                      have e5 : ((k : Int)).toNat = k := by simp
                      rw [e5, rdOf_at ids k hlt] at g0
                      clear e5
                      have hnext : ids.take (k + 1) = ids.take k ++ [ids[k]] := (List.take_append_getElem hlt).symm
                      have hlen : (ws6 ++ ids.take k).length ≤ 1000000 := by simp; omega
                      obtain ⟨x, hx⟩ : ∃ x, ids[k] = x := ⟨_, rfl⟩
                      rw [hx] at g0 hnext
                      clear hx
                      have q1 : (k : Int) < (ids.length : Int) := by omega
                      have HNEXT := Aside0.mk hnext; clear hnext
                      go_wp2_with fail
                      refine (HS.out.put hlen x).mono ?_
                      rintro e w3 ⟨rfl, hs3⟩
                      have HS3 := Aside0.mk hs3; clear hs3 g0
                      go_wp2
                      exact ⟨⟨k + 1, by omega, by go_num, ⟨by rw [HNEXT.out, ← List.append_assoc]; exact HS3.out⟩⟩, by simp [intOf]; omega⟩
                    · obtain rfl : k = ids.length := by omega
                      rw [List.take_length] at HS
                      have hl7 : (ws6 ++ ids).length ≤ 150 := by rw [List.length_append]; omega
                      obtain ⟨ws7, hws7⟩ : ∃ ws, (ws6 ++ ids) = ws := ⟨_, rfl⟩
                      rw [hws7] at HS hl7
                      have HW7 := Aside0.mk hws7; clear hws7 hlt hk
                      have z8 := (blk_cell HS.out.bx 8).trans rfl
                      go_upto_region 31 with fail
                      clear z8
                      go_loopw [100] (fun i wx => ∃ k : Nat, k ≤ es.length ∧ i = .int .i64 k ∧ Aside0 (TellSt w wx #[.int .i64 err, .int .i64 line, .string tok, .bool has, .bool cut, .slice At ts.length ct, .slice Au us.length cu, .slice Ai ids.length ci, .slice Ae es.length ce, .string t.f0, .slice Ax t.f1.length cx, .slice Ap t.f2.length cp, .slice Ag pages.length cg] (ws7 ++ (es.take k).flatMap entW))) (fun i _ => es.length - (intOf i).toNat)
                      case atStart => exact ⟨0, by omega, rfl, ⟨by simpa using HS.out⟩⟩
                      case round =>
                        clear HS
                        obtain ⟨k, hk, rfl, HS⟩ := hrel
                        by_cases hlt : k < es.length
                        · obtain ⟨ad, rfl, g0, g1, g2, g3, g4, g5, g6, g7⟩ := at_T55 HRE.out (k : Int) (by omega) (by omega)
                          replace g0 := below_cell0 HS.out.below g0
                          replace g1 := below_cell0 HS.out.below g1
                          replace g2 := below_cell0 HS.out.below g2
                          replace g3 := below_cell0 HS.out.below g3
                          replace g4 := below_cell0 HS.out.below g4
                          replace g5 := below_cell0 HS.out.below g5
                          replace g6 := below_cell0 HS.out.below g6
                          replace g7 := below_cell0 HS.out.below g7
                          have e5 : ((k : Int)).toNat = k := by simp
                          rw [e5] at g0 g1 g2 g3 g4 g5 g6 g7
                          clear e5
                          have hnext : (es.take (k + 1)).flatMap entW = (es.take k).flatMap entW ++ [itoaB (es[k]).f0, sgnW (es[k]).f1.f1 ++ tupW (es[k]).f1.f0] := flat_next entW es k hlt
                          have hx0 := HES.out es[k] (List.getElem_mem hlt)
                          rw [← rd_T55_at es k hlt] at hnext hx0
                          have hlen : (ws7 ++ (es.take k).flatMap entW).length ≤ 1000000 := by rw [List.length_append, entW_len, List.length_take]; omega
                          obtain ⟨x, hx⟩ : ∃ x, rd_T55 es (k : Int) = x := ⟨_, rfl⟩
                          rw [hx] at g0 g1 g2 g3 g4 g5 g6 g7 hnext hx0
                          clear hx
                          have hsh : ∀ w, Calls Tryz.prog 43 #[.agg #[.string x.f1.f0.f0, .string x.f1.f0.f1, .string x.f1.f0.f2, .string x.f1.f0.f3.f0, .string x.f1.f0.f3.f1, .string x.f1.f0.f3.f2]] w fun e w' => (∃ c, e = .returned (.tuple #[.string (tupW x.f1.f0), .int .i64 c])) ∧ Below w.heap.size w w' := fun w => (showTuple_any x.f1.f0.f0 x.f1.f0.f1 x.f1.f0.f2 x.f1.f0.f3.f0 x.f1.f0.f3.f1 x.f1.f0.f3.f2 w).mono fun e w' h => ⟨⟨_, h.1⟩, h.2⟩
                          have hts := tupW_size x.f1.f0
                          obtain ⟨tw, htw⟩ : ∃ tw, tupW x.f1.f0 = tw := ⟨_, rfl⟩
                          rw [htw] at hsh hnext hts
                          clear htw
                          obtain ⟨x0, ⟨⟨x1, x2, x3, ⟨x4, x5, x6⟩⟩, x7⟩⟩ := x
                          simp only at g0 g1 g2 g3 g4 g5 g6 g7 hnext hx0 hsh
                          have HX0 := Aside0.mk hx0; clear hx0
                          have HSH := Aside0.mk hsh; clear hsh
                          have HNEXT := Aside0.mk hnext; clear hnext
                          have q1 : (k : Int) < (es.length : Int) := by omega
                          have hlen2 : (ws7 ++ (es.take k).flatMap entW ++ [itoaB x0]).length ≤ 1000000 := by rw [List.length_append, List.length_append, entW_len, List.length_take, List.length_singleton]; omega
                          cases x7
                          · have q2 : (9223372036854775807 < (⟨#[43]⟩ : ByteArray).size + tw.size) = False := eq_false (by have : (⟨#[43]⟩ : ByteArray).size = 1 := rfl; omega)
                            have q3 : (9223372036854775807 < 1 + tw.size) = False := eq_false (by omega)
                            have HN2 := Aside0.mk (show ws7 ++ (es.take (k + 1)).flatMap entW = ws7 ++ (es.take k).flatMap entW ++ [itoaB x0] ++ [(⟨#[43]⟩ : ByteArray) ++ tw] by rw [HNEXT.out]; show _ ++ (_ ++ [itoaB x0, (⟨#[43]⟩ : ByteArray) ++ tw]) = _; rw [← List.append_assoc]; rw [List.append_assoc _ [itoaB x0]]; rfl)
                            go_wp2_with fail
                            refine (HSH.out _).mono ?_
                            rintro e w2 ⟨⟨c, rfl⟩, hb2⟩
                            have HS2 := Aside0.mk (HS.out.step (below_step (below_alloc (Below.refl _ _) _) hb2))
                            have HE2 := Aside0.mk (blk_below (box_blk wr #[.int .i64 x0, .string x1, .string x2, .string x3, .string x4, .string x5, .string x6, .bool false] 55) hb2)
                            have y7 := (blk_cell HE2.out 7).trans rfl; have y0 := (blk_cell HE2.out 0).trans rfl
                            clear hb2 g0 g1 g2 g3 g4 g5 g6 g7
                            go_wp2_with fail
                            refine (HIT.out x0 HX0.out _ HS2.out.below).mono ?_
                            rintro e w3 ⟨rfl, hb3⟩
                            have HS3 := Aside0.mk (HS2.out.step hb3); clear hb3 y7 y0
                            go_wp2_with fail
                            refine (HS3.out.put hlen (itoaB x0)).mono ?_
                            rintro e w4 ⟨rfl, hs4⟩
                            have HS4 := Aside0.mk hs4; clear hs4
                            go_wp2_with fail
                            refine (HS4.out.put hlen2 ((⟨#[43]⟩ : ByteArray) ++ tw)).mono ?_
                            rintro e w5 ⟨rfl, hs5⟩
                            have HS5 := Aside0.mk hs5; clear hs5
                            go_wp2
                            exact ⟨⟨k + 1, by omega, by go_num, ⟨by rw [HN2.out]; exact HS5.out⟩⟩, by simp [intOf]; omega⟩
                          · have q2 : (9223372036854775807 < (⟨#[45]⟩ : ByteArray).size + tw.size) = False := eq_false (by have : (⟨#[45]⟩ : ByteArray).size = 1 := rfl; omega)
                            have q3 : (9223372036854775807 < 1 + tw.size) = False := eq_false (by omega)
                            have HN2 := Aside0.mk (show ws7 ++ (es.take (k + 1)).flatMap entW = ws7 ++ (es.take k).flatMap entW ++ [itoaB x0] ++ [(⟨#[45]⟩ : ByteArray) ++ tw] by rw [HNEXT.out]; show _ ++ (_ ++ [itoaB x0, (⟨#[45]⟩ : ByteArray) ++ tw]) = _; rw [← List.append_assoc]; rw [List.append_assoc _ [itoaB x0]]; rfl)
                            go_wp2_with fail
                            refine (HSH.out _).mono ?_
                            rintro e w2 ⟨⟨c, rfl⟩, hb2⟩
                            have HS2 := Aside0.mk (HS.out.step (below_step (below_alloc (Below.refl _ _) _) hb2))
                            have HE2 := Aside0.mk (blk_below (box_blk wr #[.int .i64 x0, .string x1, .string x2, .string x3, .string x4, .string x5, .string x6, .bool true] 55) hb2)
                            have y7 := (blk_cell HE2.out 7).trans rfl; have y0 := (blk_cell HE2.out 0).trans rfl
                            clear hb2 g0 g1 g2 g3 g4 g5 g6 g7
                            go_wp2_with fail
                            refine (HIT.out x0 HX0.out _ HS2.out.below).mono ?_
                            rintro e w3 ⟨rfl, hb3⟩
                            have HS3 := Aside0.mk (HS2.out.step hb3); clear hb3 y7 y0
                            go_wp2_with fail
                            refine (HS3.out.put hlen (itoaB x0)).mono ?_
                            rintro e w4 ⟨rfl, hs4⟩
                            have HS4 := Aside0.mk hs4; clear hs4
                            go_wp2_with fail
                            refine (HS4.out.put hlen2 ((⟨#[45]⟩ : ByteArray) ++ tw)).mono ?_
                            rintro e w5 ⟨rfl, hs5⟩
                            have HS5 := Aside0.mk hs5; clear hs5
                            go_wp2
                            exact ⟨⟨k + 1, by omega, by go_num, ⟨by rw [HN2.out]; exact HS5.out⟩⟩, by simp [intOf]; omega⟩
                        · obtain rfl : k = es.length := by omega
                          rw [List.take_length] at HS
                          have hl8 : (ws7 ++ es.flatMap entW).length ≤ 250 := by rw [List.length_append, entW_len]; omega
                          obtain ⟨ws8, hws8⟩ : ∃ ws, (ws7 ++ es.flatMap entW) = ws := ⟨_, rfl⟩
                          rw [hws8] at HS hl8
                          have HW8 := Aside0.mk hws8; clear hws8 hlt hk
                          have z9 := (blk_cell HS.out.bx 9).trans rfl
                          go_upto_if 128 with fail
                          clear z9
                          obtain ⟨bt, hbt⟩ : ∃ b, (!t.f0.toList.isEmpty) = b := ⟨_, rfl⟩
                          rw [hbt]
                          have HBT := Aside0.mk hbt; clear hbt
                          go_cut [0, 2] (fun s0 s2 wx => s2 = .string ⟨#[]⟩ ∧ Aside0 (TellSt w wx #[.int .i64 err, .int .i64 line, .string tok, .bool has, .bool cut, .slice At ts.length ct, .slice Au us.length cu, .slice Ai ids.length ci, .slice Ae es.length ce, .string t.f0, .slice Ax t.f1.length cx, .slice Ap t.f2.length cp, .slice Ag pages.length cg] (ws8 ++ (if t.f0.toList = [] then [] else [⟨#[101, 120, 112, 97, 110, 100]⟩, itoaB (nodes t)]))))
                          case first =>
                            cases bt
                            · have HK := Aside0.mk (show t.f0.toList = [] by have := HBT.out; simpa using this)
                              go_wp2
                              go_meet
                              exact ⟨rfl, ⟨by rw [if_pos HK.out, List.append_nil]; exact HS.out⟩⟩
                            · have HK := Aside0.mk (show ¬ t.f0.toList = [] by have := HBT.out; simpa using this)
                              go_wp2_with fail
                              refine (HS.out.put (by omega) ⟨#[101, 120, 112, 97, 110, 100]⟩).mono ?_
                              rintro e w2 ⟨rfl, hs2⟩
                              have HS2 := Aside0.mk hs2; clear hs2
                              have z9 := (blk_cell HS2.out.bx 9).trans rfl; have z10 := (blk_cell HS2.out.bx 10).trans rfl; have z11 := (blk_cell HS2.out.bx 11).trans rfl
                              go_wp2_with fail
                              refine (HSIZE.out _ HS2.out.below).mono ?_
                              rintro e w3 ⟨rfl, hb3⟩
                              have HS3 := Aside0.mk (HS2.out.step hb3); clear hb3 z9 z10 z11
                              go_wp2_with fail
                              refine (HIT.out _ HNN.out _ HS3.out.below).mono ?_
                              rintro e w4 ⟨rfl, hb4⟩
                              have HS4 := Aside0.mk (HS3.out.step hb4); clear hb4
                              go_wp2_with fail
                              refine (HS4.out.put (by simp; omega) (itoaB (nodes t))).mono ?_
                              rintro e w5 ⟨rfl, hs5⟩
                              have HS5 := Aside0.mk hs5; clear hs5
                              go_wp2
                              go_meet
                              exact ⟨rfl, ⟨by rw [if_neg HK.out]; simpa using HS5.out⟩⟩
                          case rest =>
                            clear HS
                            obtain ⟨rfl, HS⟩ := hcut
                            have hl9 : (ws8 ++ (if t.f0.toList = [] then [] else [⟨#[101, 120, 112, 97, 110, 100]⟩, itoaB (nodes t)]) : List ByteArray).length ≤ 260 := by rw [List.length_append]; split <;> simp <;> omega
                            obtain ⟨ws9, hws9⟩ : ∃ ws, (ws8 ++ (if t.f0.toList = [] then [] else [⟨#[101, 120, 112, 97, 110, 100]⟩, itoaB (nodes t)]) : List ByteArray) = ws := ⟨_, rfl⟩
                            rw [hws9] at HS hl9
                            have HW9 := Aside0.mk hws9; clear hws9
                            have z12 := (blk_cell HS.out.bx 12).trans rfl
                            go_upto_region 44 with fail
                            clear z12
                            go_loopw [140] (fun i wx => ∃ k : Nat, k ≤ pages.length ∧ i = .int .i64 k ∧ Aside0 (TellSt w wx #[.int .i64 err, .int .i64 line, .string tok, .bool has, .bool cut, .slice At ts.length ct, .slice Au us.length cu, .slice Ai ids.length ci, .slice Ae es.length ce, .string t.f0, .slice Ax t.f1.length cx, .slice Ap t.f2.length cp, .slice Ag pages.length cg] (ws9 ++ (pages.take k).map itoaB))) (fun i _ => pages.length - (intOf i).toNat)
                            case atStart => exact ⟨0, by omega, rfl, ⟨by simpa using HS.out⟩⟩
                            case round =>
                              clear HS
                              obtain ⟨k, hk, rfl, HS⟩ := hrel
                              by_cases hlt : k < pages.length
                              · obtain ⟨ad, rfl, g0⟩ := Kd.at_int HRG.out (k : Int) (by omega) (by omega)
                                replace g0 := below_cell0 HS.out.below g0
                                have e5 : ((k : Int)).toNat = k := by simp
                                have e6 : rd pages (k : Int) = pages[k] := by unfold rd; simp [hlt]
                                rw [e5, e6] at g0
                                clear e5 e6
                                have hnext := map_next itoaB pages k hlt
                                have hx0 := HPG.out pages[k] (List.getElem_mem hlt)
                                have hlen : (ws9 ++ (pages.take k).map itoaB).length ≤ 1000000 := by simp; omega
                                obtain ⟨x, hx⟩ : ∃ x, pages[k] = x := ⟨_, rfl⟩
                                rw [hx] at g0 hnext hx0
                                clear hx
                                have HX0 := Aside0.mk hx0; clear hx0
                                have q1 : (k : Int) < (pages.length : Int) := by omega
                                have HNEXT := Aside0.mk hnext; clear hnext
                                go_wp2_with fail
                                refine (HIT.out x HX0.out _ HS.out.below).mono ?_
                                rintro e w2 ⟨rfl, hb2⟩
                                have HS2 := Aside0.mk (HS.out.step hb2); clear hb2 g0
                                go_wp2_with fail
                                refine (HS2.out.put hlen (itoaB x)).mono ?_
                                rintro e w3 ⟨rfl, hs3⟩
                                have HS3 := Aside0.mk hs3; clear hs3
                                go_wp2
                                exact ⟨⟨k + 1, by omega, by go_num, ⟨by rw [HNEXT.out, ← List.append_assoc]; exact HS3.out⟩⟩, by simp [intOf]; omega⟩
                              · obtain rfl : k = pages.length := by omega
                                rw [List.take_length] at HS
                                have hl10 : (ws9 ++ pages.map itoaB).length ≤ 320 := by rw [List.length_append, List.length_map]; omega
                                obtain ⟨ws10, hws10⟩ : ∃ ws, (ws9 ++ pages.map itoaB) = ws := ⟨_, rfl⟩
                                rw [hws10] at HS hl10
                                have HW10 := Aside0.mk hws10; clear hws10 hlt hk
                                have hall : ws10 = ans := by
                                  rw [← HANS.out, ← HW10.out, ← HW9.out, ← HW8.out, ← HW7.out, ← HW6.out, ← HW5.out, ← HW4.out, ← HW3.out, ← HW2.out, ← HW1.out]
                                  rfl
                                subst hall
                                obtain ⟨v, hv, hown⟩ := HS.out.words
                                have HO := Aside0.mk hown; clear hown
                                obtain ⟨A, m, c, rfl⟩ := own_slice HO.out
                                have c0 := (blk_cell hv 0).trans rfl
                                clear hv
                                have hpos : 0 < ws10.length := by
                                  rw [← HW10.out, ← HW9.out, ← HW8.out, ← HW7.out, ← HW6.out, ← HW5.out, ← HW4.out, ← HW3.out, ← HW2.out, ← HW1.out]
                                  simp only [List.length_append]
                                  split <;> simp <;> omega
                                have hj := joinBig_any HO.out (by omega) hpos HFIN.out
                                have hjs := HFIN.out
                                obtain ⟨J, hJ⟩ : ∃ J, joined ws10 = J := ⟨_, rfl⟩
                                rw [hJ] at hj hjs
                                have HJ := Aside0.mk hJ; clear hJ
                                go_wp2_with fail
                                refine hj.mono ?_
                                rintro e w2 ⟨rfl, hb⟩
                                have HB2 := Aside0.mk (below_step HS.out.below hb)
                                clear hb hj c0
                                have q4 : (9223372036854775807 < J.size + (⟨#[10]⟩ : ByteArray).size) = False := eq_false (by have : (⟨#[10]⟩ : ByteArray).size = 1 := rfl; omega)
                                have q5 : (9223372036854775807 < J.size + 1) = False := eq_false (by omega)
                                go_wp2
                                go_ret
                                exact ⟨by rw [HJ.out]; rfl, HB2.out⟩
end Go.Proofs.YtbdoafigggcdpaaGreatDoor.PScr
